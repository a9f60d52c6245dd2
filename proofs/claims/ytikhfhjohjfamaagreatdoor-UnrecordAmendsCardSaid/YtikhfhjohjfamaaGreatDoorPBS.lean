/- Lemmas. -/
import Derived.Test.YtikhfhjohjfamaaGreatDoorPBR
import Derived.Test.YtikhfhjohjfamaaGreatDoorPBO
set_option linter.unusedVariables false
set_option linter.unusedSimpArgs false
set_option maxRecDepth 100000
namespace Go.Proofs.Q
open Go Go.Bb Go.RowKit Go.Proofs.Lg
open Go.Ab (D RD)
def si(s:ar)(p:aU):ar×Dg×Int:=
 if(bj aq p).2≠0 then([],.zero,(bj aq p).2)
 else if bI (b8 s) (bj aq p).1=true then
  if((cQ ((bh s (bj aq p).1).getD .zero)).1.toList==(cQ p).1.toList)=true then([],.zero,6)else([],.zero,14)
 else if((bu p).any λd=> !bI (b8 s) d)=true then([],.zero,19)
 else if nK s (bj aq p).1 p.changes≠0 then([],.zero,nK s (bj aq p).1 p.changes)
 else if 400<=s.length then([],.zero,4)
 else(gQ s ⟨(bj aq p).1,p⟩,(bj aq p).1,0)
theorem RJ{s:ar}(g:bT (b8 s)){d:Dg}(h:bI (b8 s) d=true): ∃x,s[putAt d s 0]?=some x/\x∈s/\x.pat=(bh s d).getD .zero:=by
 have a:=Ji g d;rw[h]at a;have a:=a.symm;simp only[dW,decide_eq_true_eq]at a;obtain⟨b,f⟩:=a;obtain⟨y,c⟩:=lC (l:=s) (i:=putAt d s 0) b;rw[c]at f;have e:y.id=d:=(k8 _ _).1 (by simpa using f);have hm:=bR c;refine⟨y,c,hm,?_⟩;rw[<-e,iT g.nodup y hm];rfl
set_option maxHeartbeats 4000000 in
theorem UX(s:ar)(hl:s.length<=1000)(I:bT (b8 s))(S: ∀x∈s,bS x.pat/\db x.pat)(p:aU)(hp:bS p)(D:db p)(hn:(bu p).length<=1000000):aI Tryz.prog 45 [.sl 37 (s.map aX),.agg (br p)] (nA (si s p)):=by
 have k:=KY p hp D;have g:=La s a8 I (bj aq p).1;have A:=V7 s a8 I p hp D hn;have f:=λh=>RJ I (d:=(bj aq p).1) h;have a:=(F6 I (bj aq p).1).1;unfold si nA;have E:gQ s ⟨(bj aq p).1,p⟩=s.take (putAt (bj aq p).1 s 0)++⟨(bj aq p).1,p⟩::s.drop (putAt (bj aq p).1 s 0):=rfl;rw[E];clear E
 generalize hd:(bj aq p).1=d at k g f a⊢;generalize he:(bj aq p).2=e at k⊢;generalize putAt d s 0=i at g f a⊢;by_cases O:e=0
 .subst O;rw[if_neg (by simp)];by_cases C:bI (b8 s) d=true
  .rw[if_pos C];rw[C]at g;obtain⟨x,G,H,X⟩:=f C;have M:=V5 x.pat p (S x H).1 hp (S x H).2 D;rw[<-X];clear f A;generalize((cQ x.pat).1.toList==(cQ p).1.toList)=b at M⊢;cases b
   .rw[if_neg (by simp)];refine aL Tryz.f45 ?_ [100003,300018,300030,300059,300066,67]
    repeat' first|refine ab (λ_=> ?_) λ_=> ?_|refine aH ?_|refine af.data (k) rfl ?_|refine af.data (g) rfl ?_|refine af.data (M) rfl ?_|simp only[G,fw,b9,fg,bH,aM,bne_self_eq_false,Int.reduceBNe,Int.reduceBEq,wj,wy,qg,aE,reduceCtorEq,reduceIte,Nat.reduceAdd,Nat.reduceMul,Nat.reduceEqDiff,Nat.reduceLT,Nat.reduceLeDiff,Nat.reduceSub,ax,aD,aB,aw]
   .rw[if_pos rfl];refine aL Tryz.f45 ?_ [100003,300018,300030,300059,300066,67]
    repeat' first|refine ab (λ_=> ?_) λ_=> ?_|refine aH ?_|refine af.data (k) rfl ?_|refine af.data (g) rfl ?_|refine af.data (M) rfl ?_|simp only[G,fw,b9,fg,bH,aM,bne_self_eq_false,Int.reduceBNe,Int.reduceBEq,wj,wy,qg,aE,reduceCtorEq,reduceIte,Nat.reduceAdd,Nat.reduceMul,Nat.reduceEqDiff,Nat.reduceLT,Nat.reduceLeDiff,Nat.reduceSub,ax,aD,aB,aw]
  .have h2f:bI (b8 s) d=false:=by simpa using C
   rw[if_neg C];rw[h2f]at g;clear f;generalize((bu p).any λd=> !bI (b8 s) d)=b at A⊢;cases b
   .rw[if_neg (by simp)];have G: ∀c∈(⟨d,p⟩:bD).pat.changes,c.over.length<=100000:=λc hc=>(D.line c hc).2;have F:(⟨d,p⟩:bD).pat.changes.length<=1000000:=by have:=D.chg;show p.changes.length<=_;omega
    have Y:=λst=>Ts s st;have Z:=λ(m:Nat) (K:MD) (st:List aa) (h:RK s (m+1) m K st)=>Vf a8 S h ⟨d,p⟩ G F;refine pB Tryz.f45 ?_ [100003,300018,300030,300059,300066,67];refine AC.seq (bG ?_)
    repeat' first|refine ab (λ_=> ?_) λ_=> ?_|refine aH ?_|simp only[wj,wy,qg,aE,reduceCtorEq,reduceIte,Nat.reduceAdd,Nat.reduceMul,Nat.reduceEqDiff,Nat.reduceLT,Nat.reduceLeDiff,Nat.reduceSub,ax,aD,aB,aw]
    refine AC.seq (bG ?_)
    repeat' first|refine ab (λ_=> ?_) λ_=> ?_|refine aH ?_|refine af.data (k) rfl ?_|simp only[fw,b9,bH,aM,wj,wy,qg,aE,reduceCtorEq,reduceIte,Nat.reduceAdd,Nat.reduceMul,Nat.reduceEqDiff,Nat.reduceLT,Nat.reduceLeDiff,Nat.reduceSub,ax,aD,aB,aw]
    refine AC.seq (bG ?_)
    repeat' first|refine ab (λ_=> ?_) λ_=> ?_|refine aH ?_|simp only[bne_self_eq_false,wj,wy,qg,aE,reduceCtorEq,reduceIte,Nat.reduceAdd,Nat.reduceMul,Nat.reduceEqDiff,Nat.reduceLT,Nat.reduceLeDiff,Nat.reduceSub,ax,aD,aB,aw]
    refine AC.seq (bG ?_)
    repeat' first|refine ab (λ_=> ?_) λ_=> ?_|refine aH ?_|refine af.data (g) rfl ?_|simp only[b9,aM,wj,wy,qg,aE,reduceCtorEq,reduceIte,Nat.reduceAdd,Nat.reduceMul,Nat.reduceEqDiff,Nat.reduceLT,Nat.reduceLeDiff,Nat.reduceSub,ax,aD,aB,aw]
    refine AC.freeze1 (i:=1) (au d) 7 [(0,.d (.sl 37 (s.map aX))),(3,.d (.ref (br p))),(5,.ptr 0 0),(8,.d (dI 0)),(9,iN i),(10,.d (dB false))] rfl rfl ⟨rfl,rfl,rfl,rfl,rfl,rfl,trivial⟩ ?_;obtain⟨u,U⟩: ∃u,u=nK s d p.changes:=⟨_,rfl⟩
    have B: ∀(m:Nat) (K:MD) (st:List aa) (h:RK s (m+1) m K st),bs Tryz.prog 117 [.ptr (m+1) 0,.d (.agg (aX ⟨d,p⟩))] st λd q=>d= .d (dI u)/\fZ m st q:=λm K st h=>by rw[U];exact Z m K st h
    rw[<-U];clear Z U k g;refine AC.cutJ [0,3,5,7,8,9] [(0,.d (.sl 37 (s.map aX))),(3,.d (.ref (br p))),(5,.ptr 0 0),(7,.d (.ref (au d))),(8,.d (dI u)),(9,.d (dI i))] (λst=>st[0]?=some (.cells ((au .zero).map .d))) ?_ λst T=> ?_
    .repeat' first|refine ab (λ_=> ?_) λ_=> ?_|refine aH ?_|refine af.data (A) rfl ?_|(refine af.fn ((Y _).mono ?_);rintro _ J ⟨rfl,hK,P⟩)|simp only[b9,bH,fg,aM,Bool.false_and,wj,wy,qg,aE,reduceCtorEq,reduceIte,Nat.reduceAdd,Nat.reduceMul,Nat.reduceEqDiff,Nat.reduceLT,Nat.reduceLeDiff,Nat.reduceSub,ax,aD,aB,aw]
     have z0:J[0]?=some (.cells ((au .zero).map .d)):=P 0 _ rfl;have V:bs Tryz.prog 117 [.ptr 3 0,.d (.agg (aX ⟨d,p⟩))] J λd q=>d= .d (dI u)/\fZ 2 J q:=B 2 [] J hK
     repeat' first|refine ab (λ_=> ?_) λ_=> ?_|refine aH ?_|(refine af.fn (V.mono ?_);rintro _ s2 ⟨rfl,Q⟩)|simp only[b9,bH,fg,aM,wj,wy,qg,aE,reduceCtorEq,reduceIte,Nat.reduceAdd,Nat.reduceMul,Nat.reduceEqDiff,Nat.reduceLT,Nat.reduceLeDiff,Nat.reduceSub,ax,aD,aB,aw]
     all_goals exact Q 0 _ (by decide) z0
    .have z0:=T;clear B Y A G F;have a0:=(aV.1 z0).1;have L:=λo:aa=>eg (o':=o) z0;refine bG ?_;by_cases j:u=0
     .subst j;rw[if_neg (by simp)];by_cases n:400<=s.length
      .have w:decide ((s.length:Int)>=400)=true:=by simp;omega
       rw[if_pos n]
       repeat' first|refine ab (λ_=> ?_) λ_=> ?_|refine aH ?_|simp only[w,z0,L,fw,b9,aM,beq_self_eq_true,Int.reduceBNe,Int.reduceBEq,wj,wy,qg,aE,reduceCtorEq,reduceIte,Nat.reduceAdd,Nat.reduceMul,Nat.reduceEqDiff,Nat.reduceLT,Nat.reduceLeDiff,Nat.reduceSub,ax,aD,aB,aw]
      .have w:decide ((s.length:Int)>=400)=false:=by simp;omega
       rw[if_neg n];cases s with
       |nil=>
        obtain rfl:i=0:=by simpa using a
        have w:decide ((0:Int)>=400)=false:=by decide
        have ci:=Sr (s:=st++[.vec 71 37 ((aX ⟨d,p⟩).map .d)]) (r2:=st.length) (x:=⟨d,p⟩) (by simp);have t:=λl=>bz z0 l;have v: ∀(l:List aa) (o:aa),((st++l).set 0 o)[0]?=some o:=λl o=>eg (bz z0 l)
        have W:bE ((st++[aa.vec 71 37 ((aX ⟨d,p⟩).map .d),aa.vec 71 37 (dZ [⟨d,p⟩])]).set 0 (.cells ((au d).map .d))) 4 (.vec (st.length+1) 1 37)=some (.sl 37 [aX ⟨d,p⟩]):=DW (e:=71) (getSet (by simp[dZ]) a8) (by decide) rfl (λr R=>by obtain rfl:=jH.1 R;exact fg _)
        repeat' first|refine ab (λ_=> ?_) λ_=> ?_|refine aH ?_|(refine Qf ?_)|(refine af.fn (ci.mono ?_);rintro _ s3 ⟨rfl,rfl⟩)|simp only[w,z0,t,L,v,↓W,rU,fw,b9,bH,fg,aM,beq_self_eq_true,bne_self_eq_false,Int.reduceBNe,Int.reduceBEq,wj,wy,qg,aE,reduceCtorEq,reduceIte,Nat.reduceAdd,Nat.reduceMul,Nat.reduceEqDiff,Nat.reduceLT,Nat.reduceLeDiff,Nat.reduceSub,ax,aD,aB,aw]
       |cons y l=>
        have w:decide (((l.length+1:Nat):Int)>=400)=false:=by rw[aY]at n;simp;omega
        have ci:=Ss (s:=st++[.vec 71 37 (dZ (y::l)),.vec 71 37 ((aX ⟨d,p⟩).map .d)]) (r:=st.length) (r2:=st.length+1) (l:=y::l) (x:=⟨d,p⟩) (by simp) (by simp) a8 a a8;have t:=λl=>bz z0 l;have v: ∀(l:List aa) (o:aa),((st++l).set 0 o)[0]?=some o:=λl o=>eg (bz z0 l)
        have W:bE ((st++[aa.vec 71 37 (dZ ((y::l).take i++⟨d,p⟩::(y::l).drop i)),aa.vec 71 37 ((aX ⟨d,p⟩).map .d)]).set 0 (.cells ((au d).map .d))) 4 (.vec st.length (l.length+1+1) 37)=some (.sl 37 (((y::l).take i++⟨d,p⟩::(y::l).drop i).map aX)):=DW (e:=71) (getSet (by simp[dZ]) a8) (by decide) (by simp only[aM,aQ,cC,aY,ax]at a⊢;omega) (λr R=>by obtain⟨z,_,rfl⟩:=bM.1 R;exact fg _)
        repeat' first|refine ab (λ_=> ?_) λ_=> ?_|refine aH ?_|(refine Qe (by rw[aY]at hl;omega) ?_)|(refine af.fn (ci.mono ?_);rintro _ s3 ⟨rfl,rfl⟩)|simp only[w,z0,t,L,v,↓W,rU,fw,b9,bH,fg,aM,beq_self_eq_true,bne_self_eq_false,Int.reduceBNe,Int.reduceBEq,wj,wy,qg,aE,reduceCtorEq,reduceIte,Nat.reduceAdd,Nat.reduceMul,Nat.reduceEqDiff,Nat.reduceLT,Nat.reduceLeDiff,Nat.reduceSub,ax,aD,aB,aw]
     .have N:(u==0)=false:=by simpa using j
      have e2:(u !=0)=true:=by simpa using j
      rw[if_pos j]
      repeat' first|refine ab (λ_=> ?_) λ_=> ?_|refine aH ?_|simp only[N,e2,z0,L,fw,b9,aM,wj,wy,qg,aE,reduceCtorEq,reduceIte,Nat.reduceAdd,Nat.reduceMul,Nat.reduceEqDiff,Nat.reduceLT,Nat.reduceLeDiff,Nat.reduceSub,ax,aD,aB,aw]
   .rw[if_pos rfl];refine aL Tryz.f45 ?_ [100003,300018,300030,300059,300066,67]
    repeat' first|refine ab (λ_=> ?_) λ_=> ?_|refine aH ?_|refine af.data (k) rfl ?_|refine af.data (g) rfl ?_|refine af.data (A) rfl ?_|simp only[fw,b9,fg,bH,aM,bne_self_eq_false,Int.reduceBNe,Int.reduceBEq,wj,wy,qg,aE,reduceCtorEq,reduceIte,Nat.reduceAdd,Nat.reduceMul,Nat.reduceEqDiff,Nat.reduceLT,Nat.reduceLeDiff,Nat.reduceSub,ax,aD,aB,aw]
 .have N:(e !=0)=true:=by simpa using O
  rw[if_pos (by simpa using O)];refine aL Tryz.f45 ?_ [100003,300018,300030,300059,300066,67]
  repeat' first|refine ab (λ_=> ?_) λ_=> ?_|refine aH ?_|refine af.data (k) rfl ?_|simp only[N,fw,b9,fg,bH,aM,wj,wy,qg,aE,reduceCtorEq,reduceIte,Nat.reduceAdd,Nat.reduceMul,Nat.reduceEqDiff,Nat.reduceLT,Nat.reduceLeDiff,Nat.reduceSub,ax,aD,aB,aw]
def kI(a:ay):ay:={a with over:=[]}
theorem RU(d:Dg)(x:ay):kI (mD d x)=kI (wi d x):=by rw[uq];rfl
theorem R7{p:aU}(h:(bj aq p).2=0):dp p=(dN p).1:=by
 unfold dp;rw[if_neg];intro a;unfold bj at h;rw[if_pos a]at h;exact a h
theorem Pz(p:aU):(ee p).1.map kI=(ew aq p).1.map kI/\(ee p).2=(ew aq p).2:=by
 unfold ee ew;by_cases h:(bj aq p).2=0
 .rw[if_neg (c:=(bj aq p).2≠0) (by simpa using h),if_neg (c:=(bj aq p).2≠0) (by simpa using h),R7 h];refine⟨?_,rfl⟩;rw[ll,ll];exact vt λx _=>RU _ x
 .rw[if_pos h,if_pos h];exact⟨rfl,rfl⟩
theorem Pu(s:ar)(x:ak):(oT s x).map kI=(ng aq s x).map kI:=by
 obtain⟨h,-⟩:=Pz ((bh s x.p).getD .zero);have b:=congrArg List.length h;rw[aM,aM]at b;unfold oT ng qX;rw[b];by_cases a:x.n<0\/((ew aq ((bh s x.p).getD .zero)).1.length:Int)<=x.n
 .rw[if_pos a,if_pos a]
 .rw[if_neg a,if_neg a,<-dj,<-dj,h]
def vc(s:ar)(t:Tg):Int:=match oT s t.1 with
 |none=>7
 |some a=>if t.2 a=true then 0 else 8
theorem yR(a:Int):c9 a 0=a:=by simp only[c9];split<;>simp_all
theorem Gq(s:ar)(t:Tg)(l:List Tg):fO s (t::l)=c9 (vc s t) (fO s l):=by
 rw[fO,vc];cases oT s t.1 with
 |none=>rfl
 |some a=>
  by_cases h:t.2 a=true
  .simp[h,c9]
  .simp[h,c9]
theorem Nt(s:ar): ∀a b:List Tg,fO s (a++b)=c9 (fO s a) (fO s b)
 |[],b=>by simp[fO,c9]
 |t::a,b=>by rw[gb,Gq,Gq,Nt s a b,sY]
def vd(s:ar)(t:Tg):Int:=if isZero t.1.p=true then 0 else vc s t
theorem vf(s:ar)(r:List Tg)(t:Tg):fO s (kD r t)=c9 (fO s r) (vd s t):=by
 unfold kD vd;by_cases h:isZero t.1.p=true
 .rw[if_pos h,if_pos h,yR]
 .rw[if_neg h,if_neg h,Nt,Gq,fO,yR]
theorem zM{s:ar}{x:ak}{f g:ay->Bool}(h: ∀a b,kI a=kI b->f a=g b):vd s (x,f)=j7 aq s x g:=by
 unfold vd j7 vc;by_cases c:isZero x.p=true
 .rw[if_pos c,if_pos c]
 .rw[if_neg c,if_neg c];have hb:=Pu s x;dsimp only;rcases h1:oT s x with _|a<;>rcases h2:ng aq s x with _|b<;>rw[h1,h2]at hb
  .simp at hb
  .simp at hb
  .have:=h a b (by simpa using hb);simp only[this]
theorem Zv{s:ar}{x:ak}{f g:ay->Bool}(h:vc s (x,f)≠7)(hg: ∀a,g a=true):vc s (x,g)=0:=by
 unfold vc at*;dsimp only at*;cases b:oT s x with
 |none=>rw[b]at h;exact absurd rfl h
 |some a=>simp[hg]
theorem Aw{a b:ay}(h:kI a=kI b):a.kind=b.kind/\a.type=b.type/\a.file=b.file:=by
 have c:=congrArg ay.kind h;have d:=congrArg ay.type h;have e:=congrArg ay.file h;exact⟨c,d,e⟩
theorem Hi(k:Int){a b:ay}(h:kI a=kI b):gN k a=gN k b:=by
 obtain⟨c,d,e⟩:=Aw h;unfold gN;rw[c,d]
theorem PJ{a b:ay}(h:kI a=kI b):np a=np b:=by
 obtain⟨c,d,e⟩:=Aw h;unfold np;rw[c,d]
theorem PK(f:ak){a b:ay}(h:kI a=kI b):oY f a=oY f b:=by
 obtain⟨c,e,d⟩:=Aw h;unfold oY;rw[c,d]
theorem D3{x:ak}(h:x= .zero):isZero x.p=true:=by subst h;simp[ak.zero,isZero]
theorem Zw{s:ar}{t:Tg}(h:isZero t.1.p=true):vd s t=0:=if_pos h
theorem Ma{s:ar}{x:ak}{g:ay->Bool}(h:isZero x.p=true):j7 aq s x g=0:=if_pos h
theorem CM(s:ar)(c:az)(id:Dg): ∀(l:List ak) (r:List Tg),fO s (nH c id l r)=c9 (fO s r) (fO s (nH c id l []))
 |[],r=>by simp[nH,fO,yR]
 |x::l,r=>by
  rw[nH,CM s c id l,vf,nH,CM s c id l (kD [] _),vf,sY];simp[fO,sZ]
theorem Ns{s:ar}{c:az}{id:Dg}(hk:c.kind=2\/c.kind=3\/c.kind=4\/c.kind=6\/c.kind=7)(e:c.kind=7\/nv c id=whole c.file id): ∀l:List ak,fO s (nH c id l [])=mJ aq s c id l
 |[]=>rfl
 |x::l=>by
  rw[nH,CM,vf,mJ,Ns hk e l];simp only[fO,sZ];congr 1;refine zM λa b d=> ?_;obtain⟨f,i,g⟩:=Aw d;rw[f,g];unfold ri xm mU;rcases e with h|h
  .simp[h]
  .rw[h];obtain h|h|h|h|h:=hk<;>simp[h]
structure xL(c:az):Prop where
 f:fm c=0
 r: ∃own,iG c own=0
theorem HL: ∀{l:List az} {own:List ay},(eH l own).2=0-> ∀c∈l,xL c
 |[],_,_,c,hc=>by cases hc
 |x::l,own,h,c,hc=>by
  rw[eH]at h;by_cases a:fm x=0
  .rw[if_neg (by simpa using a)]at h;by_cases b:iG x own=0
   .rw[if_neg (by simpa using b)]at h;rcases bF.1 hc with rfl|hc
    .exact⟨a,_,b⟩
    .exact HL h c hc
   .rw[if_pos b]at h;exact absurd h b
  .rw[if_pos a]at h;exact absurd h a
theorem Ty{p:aU}(h:(bj aq p).2=0): ∀c∈p.changes,xL c:=by
 have h0:(cQ p).2=0:=by
  unfold bj at h;by_cases a:(cQ p).2≠0
  .rw[if_pos a]at h;exact absurd h a
  .simpa using a
 have b:(dN p).2=0:=by
  unfold cQ at h0;by_cases a:(dN p).2=0
  .exact a
  .rw[if_pos a]at h0;exact absurd h0 a
 obtain⟨_,_,_,d,_⟩:=jx b;rw[d]at b;exact HL b
theorem Uh{a b:Int}:c9 a b=0↔a=0/\b=0:=by
 unfold c9;by_cases h:a=0<;>simp[h]
theorem KD{c:az}(h:xL c)(hk:2<=c.kind/\c.kind<=6)(id:Dg):nv c id=whole c.file id:=by
 obtain⟨own,e⟩:=h.r;have a:rI c own=0:=(Uh.1 e).1;unfold rI at a;rw[if_pos hk]at a;unfold nv whole;by_cases b:isZero c.file.p=true
 .have h0:0<=c.file.n:=by
   unfold kS allowed at a;rw[if_pos b]at a;by_cases d:0<=c.file.n
   .exact d
   .rw[if_pos (by simp[d])]at a;cases a
  rw[if_pos b,if_pos ⟨b,h0⟩]
 .rw[if_neg b,if_neg (λh=>b h.1)]
theorem Zx{s:ar}{c:az}{id:Dg}(h:xL c):fO s (tE c id)=ni aq s c id:=by
 obtain⟨⟨t,j⟩,k,_⟩:=nY h.f;rw[<-xf c t j]at k;simp only[lX,dW,jF,decide_eq_true_eq]at k;obtain⟨-,y,z,-,-,w,-,A⟩:=k;have m:fO s (mW c)=j7 aq s c.file (gN c.kind):=by
  unfold mW;by_cases hk:c.kind≠1/\c.kind≠7
  .rw[if_pos hk,vf];simp only[fO,sZ];exact zM λa b d=>Hi _ d
  .rw[if_neg hk,Ma (D3 (y.resolve_left a8))];rfl
 have n:fO s (py c (mW c))=c9 (j7 aq s c.file (gN c.kind)) (j7 aq s c.parent np):=by
  unfold py;by_cases hk:c.kind=2
  .rw[if_pos hk,vf,m];congr 1;exact zM λa b d=>PJ d
  .rw[if_neg hk,m,Ma (x:=c.parent) (D3 (z.resolve_left hk).1),yR]
 have o: ∀x,2<=c.kind/\c.kind<=6->j7 aq s c.file (gN c.kind)=0->vd s (zI c id x)=nr aq s x c.file id:=by
  intro x hk h0;unfold nr;by_cases i:isZero x.p=true
  .rw[if_pos (.inl i),Zw i]
  .by_cases l:x=c.file
   .rw[if_pos (.inr l)];subst l;have e:=zM (s:=s) (x:=c.file) (f:=gN c.kind) (g:=gN c.kind) λa b d=>Hi _ d;rw[h0]at e;unfold vd at e⊢;rw[if_neg i]at e;rw[if_neg (show¬isZero (zI c id c.file).1.p=true from i)];exact Zv (by rw[e];decide) λa=>by simp
   .rw[if_neg (by rintro(h|h)<;>contradiction)];refine zM λa b d=> ?_;rw[KD h hk id,PK _ d];simp[l]
 have u:fO s (tK c id (py c (mW c)))=c9 (j7 aq s c.file (gN c.kind)) (c9 (j7 aq s c.parent np) (c9 (nr aq s c.after c.file id) (nr aq s c.before c.file id))):=by
  unfold tK;by_cases hk:c.kind=5\/c.kind=6
  .rw[if_pos hk,vf,vf,n,sY,sY];by_cases h0:j7 aq s c.file (gN c.kind)=0
   .rw[o _ a8 h0,o _ a8 h0]
   .simp only[c9,if_pos h0]
  .obtain⟨ha,hb⟩:=w.resolve_left hk;have q:nr aq s c.after c.file id=0:=if_pos (.inl (D3 ha));have r:nr aq s c.before c.file id=0:=if_pos (.inl (D3 hb));rw[if_neg hk,n,q,r];simp only[yR,sZ]
 have v:fO s (nH c id c.over [])=mJ aq s c id c.over:=by
  by_cases hk:c.kind=1\/c.kind=5
  .have:c.over=[]:=gV (by have:=A.resolve_left a8;omega);rw[this];rfl
  .refine Ns a8 ?_ _;by_cases j:c.kind=7
   .exact .inl j
   .exact .inr (KD h a8 id)
 unfold tE ni;rw[CM,u,v];simp only[sY]
theorem Nr{s:ar}{id:Dg}: ∀{l:List az},(∀c∈l,xL c)->nK s id l=iw aq s id l
 |[],_=>rfl
 |c::l,h=>by
  rw[nK,iw,Zx (h c (by simp)),Nr λx a=>h x (er _ a)];rfl
theorem H7{l:List Dg}: ∀{m:List Dg},(m.any λd=> !bI l d)= !gz l m
 |[]=>rfl
 |d::m=>by
  rw[List.any_cons,gz,H7];cases bI l d<;>simp
theorem H0{s:ar}{p:aU}(h:(bj aq p).2=0->(bj aq p).1∉b8 s):si s p=eZ aq s p:=by
 unfold si eZ;by_cases a:(bj aq p).2=0
 .rw[if_neg (c:=(bj aq p).2≠0) (by simpa using a),if_neg (c:=(bj aq p).2≠0) (by simpa using a)];have b:=h a;rw[if_neg (λd=>b ((jA _ _).1 d)),oe.2 b,H7,Nr (Ty a)];simp only[rY]
 .rw[if_pos a,if_pos a]
end Go.Proofs.Q
