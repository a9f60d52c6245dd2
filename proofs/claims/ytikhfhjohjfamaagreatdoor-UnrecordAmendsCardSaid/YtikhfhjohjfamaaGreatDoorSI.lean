/- Lemmas. -/
import Derived.Test.YtikhfhjohjfamaaGreatDoorPBG
set_option linter.unusedVariables false
set_option linter.unusedSimpArgs false
set_option maxRecDepth 100000
namespace Go.Proofs.Q
open Go Go.Bb Go.RowKit Go.Proofs.Lg
open Go.Ab (D RD)
theorem KY(p:aU)(hp:bS p)(d:db p):aI Tryz.prog 112 [.agg (br p)] (.tup [.agg (au (bj aq p).1),dI (bj aq p).2]):=by
 have a:=F1 p hp d;have b:=YO (cQ p).1 (by have:=IG p;omega);unfold bj;by_cases h:(cQ p).2=0
 .rw[h]at a;rw[if_neg (by simpa using h)];clear h;refine aL Tryz.f112 ?_ [100001,300013];exact bL (ga @fy @b9) (ga @a @b)
 .have c:((cQ p).2 !=0)=true:=by simpa using h
  rw[if_pos h];refine aL Tryz.f112 ?_ [100001,300013];exact bL (ga @c (ga @fy @b9)) @a
theorem AB(A B:List ay):fM (A++B)=fM A++fM B:=by simp only[fM,fF,tS]
theorem Hx(L:List ay)(n:Nat)(h:n<=L.length):(fM L).take (n*172)=fM (L.take n):=by
 conv=>lhs;rw[<-jV n L,AB]
 rw[ij (by rw[uc,cC];omega),dL (by rw[uc,cC];omega)]
theorem Hv(L:List ay)(n:Nat)(h:n<=L.length):(fM L).drop (n*172)=fM (L.drop n):=by
 conv=>lhs;rw[<-jV n L,AB]
 rw[iL,iM (by rw[uc,cC];omega),bt,uc,cC,qO h,jc,ky]
theorem Q1{L:List ay}{k:Nat}{d:ay}(h:L[k]?=some d):((fM L).drop (k*172)).take 172=(aO d).map .d:=by
 obtain⟨hk,rfl⟩:=aV.1 h;rw[Hv L k a8,lh hk];have:=Hx (L[k]::L.drop (k+1)) 1 (by rw[aY];omega);rw[qP]at this;rw[this,jW,tW,DB]
theorem Hw{L:List ay}{k:Nat}(hk:k<L.length)(d:ay):(fM L).take (k*172)++((aO d).map .d++(fM L).drop (k*172+172))=fM (L.set k d):=by
 rw[Hx L k a8,show k*172+172=(k+1)*172 by omega,Hv L (k+1) a8,DB,<-AB,<-AB];congr 1;rw[De,if_pos hk];simp
theorem Q7(b:List ak)(x:ak):cV b++(ae x).map .d=cV (b++[x]):=by
 rw[r8,r8];simp
theorem Q6(x:ak):(ae x).map .d=cV [x]:=by rw[r8];simp
theorem xY(b:List ak):(cV b).length=b.length*33:=by
 unfold cV;rw[aM,zO]
def Oo(v:AV)(s:List aa)(b:List ak):Prop:=(v= .nil 33/\b=[])\/ ∃r,v= .vec r b.length 33/\s[r]?=some (.vec 32 33 (cV b))/\b≠[]
def mD(d:Dg)(x:ay):ay:={k9 d x with over:=(x.over.map (whole · d)).mergeSort ft}
def ee(p:aU):List ay×Int:=if(bj aq p).2≠0 then([],(bj aq p).2)else((dp p).map (mD (bj aq p).1),0)
theorem HJ: ∀(l:List az) (own:List ay),sd own->sd (eH l own).1
 |[],own,h=>h
 |c::l,own,h=>by
  rw[eH]
  repeat' split
  all_goals first
   |exact λi a ha=>by simp at ha
   |exact HJ l _ (h.app c)
theorem IL(p:aU):sd (dp p):=by
 unfold dp;split
 .exact λi a ha=>by simp at ha
 .rename_i h;have c:(dN p).2=0:=by
   unfold cQ at h;by_cases b:(dN p).2=0
   .exact b
   .rw[if_pos b]at h;exact absurd b h
  obtain⟨_,e,_,d,_⟩:=jx c;rw[d];exact HJ _ _ λi a ha=>by simp at ha
theorem IM(p:aU): ∀x∈dp p,x.over.length<=400:=by
 intro x a;unfold dp at a;split at a
 .cases a
 .rename_i h;have c:(dN p).2=0:=by
   unfold cQ at h;by_cases b:(dN p).2=0
   .exact b
   .rw[if_pos b]at h;exact absurd b h
  obtain⟨_,e,_,d,_⟩:=jx c;rw[d]at a;exact DJ (by simp) x a
theorem wc(p:aU):(dp p).length<=1604400:=by
 unfold dp;split
 .exact fG _
 .rename_i h;have b:(dN p).2=0:=by
   unfold cQ at h;by_cases a:(dN p).2=0
   .exact a
   .rw[if_pos a]at h;exact absurd a h
  obtain⟨_,d,_,c,_⟩:=jx b;rw[c];have:=AM (l:=p.changes) (own:=[]);simp at this;omega
theorem ZR{i:Nat}{d:Dg}{y:ak}(h:y=eM i):whole y d={y with p:=d}:=by
 subst h;unfold whole;rw[if_pos ⟨by simp[isZero,eM],by simp[eM]⟩]
theorem AC.toD1{P:Program}{N:Nat}{cc:CC}{Q:Exit->Fr->List aa->Prop}{fr:Fr}{s:List aa}(n:Nat)(rest:Fr){y:AV}{d:D}(f:Bb.look fr n=some y)(b:y.toD=some d)(c:lz rest fr)(h:AC P N none cc Q ((n,.d d)::rest) s):AC P N none cc Q fr s:=
 AC.toD (fr':=(n,.d d)::rest) (λt x a=>by
  unfold Bb.look at a;split at a
  .rename_i e;subst e;cases a;exact .inr ⟨y,d,f,b,rfl⟩
  .exact .inl (c.sub t x a)) h
theorem AC.freezeV1{P:Program}{N:Nat}{cc:CC}{Q:Exit->Fr->List aa->Prop}{fr:Fr}{s:List aa}{i e sz k:Nat}{rows:List (List D)}(n:Nat)(rest:Fr)(l:s[i]?=some (.vec e sz (rows.flatten.map .d)))(g:0<sz)(j:rows.length=k)(c:0<k)(f: ∀r∈rows,r.length=sz)
  (m:Bb.look fr n=some (.vec i k sz)) (a:lz rest fr) (h:AC P N none cc Q ((n,.d (.sl sz rows))::rest) (s.set i .junk)):AC P N none cc Q fr s:=
 AC.freezeV (fr':=(n,.d (.sl sz rows))::rest) l g j c f (λt x b=>by
  unfold Bb.look at b;split at b
  .rename_i e;subst e;cases b;exact .inr ⟨m,rfl⟩
  .exact .inl (a.sub t x b)) h
set_option maxHeartbeats 4000000 in
theorem UC(p:aU)(hp:bS p)(hN:db p):aI Tryz.prog 141 [.agg (br p)] (.tup [.sl 172 ((ee p).1.map aO),dI (ee p).2]):=by
 have c1:=KZ p hp hN;have c2:=KY p hp hN;have D:=IL p;have b5:=IM p;have c4:=wc p;refine pB Tryz.f141 ?_ [100001,100084,85] [[34,4,8,32,33],[76,8,11,74,9,10,34,4,32,33,75]];refine AC.seq (bG ?_);refine aC @wj trivial ?_;by_cases h:(cQ p).2=0
 .have h2:(bj aq p).2=0:=by unfold bj;rw[if_neg (by simpa using h)]
  obtain⟨d,hd⟩: ∃d,d=(bj aq p).1:=⟨_,rfl⟩
  obtain⟨own,F⟩: ∃own,own=dp p:=⟨_,rfl⟩
  have hA:ee p=(own.map (mD d),0):=by unfold ee;rw[if_neg (by simpa using h2),hd,F]
  rw[h]at c1;rw[h2,<-hd]at c2;rw[hA];rw[<-F]at c1 D b5 c4;refine AC.seq (bG ?_)
  repeat' first|refine ab (λ_=> ?_) λ_=> ?_|refine aH ?_|(refine af.fn (c1.mono ?_);rintro _ z ⟨v,rfl,hg⟩)|simp only[wj,wy,qg,aE,simprocAttr,ax,aD,aB,aw]
  have q:=jC Tryz.prog v;refine aC (ga @q @wj) trivial ?_;clear c1 hd F hA h h2;refine AC.seq (bG ?_);refine aC (ga @q @wj) trivial ?_;refine AC.seq (bG ?_);refine aC (ga @q (ga @b9 (ga @fy @wj))) @c2 ?_;refine AC.seq (bG ?_);refine aC (ga @q @wj) trivial ?_
  refine AC.freeze (i:=z.length) (ds:=au d) (fr':=[(7,.d (.ref (au d))),(4,v)]) (by simp) (λt x hx=> ?_) ?_
  .unfold Bb.look at hx;split at hx
   .rename_i e;subst e;cases hx;exact .inr ⟨rfl,rfl⟩
   .obtain⟨rfl,rfl⟩:=wD hx;exact .inl rfl
  refine AC.seq (bG ?_);refine aC (ga @q @wj) trivial ?_;have cw:=λy=>UB y d;rcases hg with⟨rfl,hn⟩|⟨r,rfl,w⟩
  .rw[hn];refine bG ?_;refine aC @wj trivial ?_;refine aZ.tr (λ_:Unit=>[]) (λ_=>_) (λ_ _=>True) 0 () aA aA rfl trivial ?_;rintro m _ _;exact bL @wj trivial
   all_goals first|rfl|trace_state
  have hS:(z++[aa.junk])[r]?=some (.vec 46 172 (fM own)):=cF w _;generalize z++[aa.junk]=s0 at hS⊢;clear w q c2;refine AC.seq (AC.seq (bG ?_));refine aC @wj trivial ?_;refine AC.block ?_
  refine AC.overI own (λk (b:List ay×List aa)=>[(34,iN k)]) (λ_ b=>b.2) (λr b=>b.1++r.map (mD d)) (own.map (mD d)) (λk b=>b.1.length=k/\b.2[r]?=some (.vec 46 172 (fM (b.1++own.drop k)))) ([],s0) a8 aA aA rfl rfl ⟨rfl,hS⟩ (λk b x hg hk hd hw O hJ=> ?_) (λb hd O hJ=> ?_)
  .obtain⟨b,s⟩:=b;obtain⟨g,w⟩:=hJ;dsimp only at O g w;refine AC.seq (bG ?_);refine aC (ga @hd (ga @hw @wj)) trivial ?_;refine AC.seq (bG ?_);refine aC @wj trivial ?_;refine AC.seq (AC.block ?_);generalize a6:ma 1 _=QB;obtain⟨W,a1⟩: ∃W,W=b++own.drop k:=⟨_,rfl⟩
   have hL:(b++own.drop k).length=own.length:=by rw[aQ,ax];omega
   have a2:(b++own.drop k)[k]?=some x:=by rw[iY a8,g,jc,gf,aB];exact hg
   have Q:(fM (b++own.drop k)).length=own.length*172:=by rw[uc,hL]
   have a0:=Q1 a2;have q0:k*172+172<=own.length*172:=by omega
   rw[<-a1]at w hL a2 Q a0;have b8:=D k x hg;have c7:=b5 x (bR hg);refine AC.seq (bG ?_);refine aC (ga @w (ga @hk (ga @Q (ga @a0 (ga @q0 (ga @bB (ga @cG @wj))))))) trivial ?_;refine AC.seq (bG ?_)
   repeat' first|refine ab (λ_=> ?_) λ_=> ?_|refine aH ?_|refine af.data (cw _) rfl ?_|simp only[ZR b8,bB,lR,zc,aN,aM,wj,wy,qg,aE,simprocAttr,ax,aD,aB,aw]
   obtain⟨y1,a5⟩: ∃y:ay,y={x with id:={x.id with p:=d}}:=⟨_,rfl⟩
   obtain⟨y2,S⟩: ∃y:ay,y=if y1.kind≠7 then{y1 with file:=whole y1.file d}else y1:=⟨_,rfl⟩
   obtain⟨Y,T⟩: ∃y:ay,y=if y2.kind=2 then{y2 with parent:=whole y2.parent d}else y2:=⟨_,rfl⟩
   obtain⟨M,U⟩: ∃y:ay,y=if Y.kind=6 then{Y with fro:=whole Y.fro d,til:=whole Y.til d}else Y:=⟨_,rfl⟩
   have b0:k9 d x=M:=by rw[U,T,S,a5];rfl
   rw[<-a5];clear D hS b8;refine AC.cutJ [8,9,10,4,34,32,33] [(8,.clo 212 [] [.d (.ref (au d))]),(9,iN k),(10,.ptr s.length 0),(4,.vec r own.length 172),(34,iN k),(32,.vec r own.length 172),(33,iN own.length)] (λz=>z=s++[.cells ((aO y2).map .d)]) ?_ (λs2 J=> ?_)
   .by_cases h:y1.kind=7
    .rw[S,if_neg (by simpa using h)];exact bL (ga @h (ga @bB (ga @lR (ga @aN @wj)))) trivial
    .have N:(y1.kind !=7)=true:=by simpa using h
     rw[S,if_pos h];exact bL (ga @N (ga @bB (ga @lR (ga @aN @wj)))) @cw
   subst J;refine AC.cutJ [8,9,10,4,34,32,33] [(8,.clo 212 [] [.d (.ref (au d))]),(9,iN k),(10,.ptr s.length 0),(4,.vec r own.length 172),(34,iN k),(32,.vec r own.length 172),(33,iN own.length)] (λz=>z=s++[.cells ((aO Y).map .d)]) ?_ (λs2 J=> ?_)
   .by_cases h:y2.kind=2
    .rw[T,if_pos h]
     repeat' first|refine ab (λ_=> ?_) λ_=> ?_|refine aH ?_|refine af.data (cw _) rfl ?_|simp only[h,beq_self_eq_true,bB,lR,aN,aM,wj,wy,qg,aE,simprocAttr,ax,aD,aB,aw]
    .have N:(y2.kind==2)=false:=by simpa using h
     rw[T,if_neg h];exact bL (ga @N (ga @bB (ga @lR (ga @aN @wj)))) trivial
   subst J;refine AC.cutJ [8,9,10,4,34,32,33] [(8,.clo 212 [] [.d (.ref (au d))]),(9,iN k),(10,.ptr s.length 0),(4,.vec r own.length 172),(34,iN k),(32,.vec r own.length 172),(33,iN own.length)] (λz=>z=s++[.cells ((aO M).map .d)]) ?_ (λs2 J=> ?_)
   .by_cases h:Y.kind=6
    .rw[U,if_pos h]
     repeat' first|refine ab (λ_=> ?_) λ_=> ?_|refine aH ?_|refine af.data (cw _) rfl ?_|simp only[h,beq_self_eq_true,bB,lR,aN,aM,wj,wy,qg,aE,simprocAttr,ax,aD,aB,aw]
    .have N:(Y.kind==6)=false:=by simpa using h
     rw[U,if_neg h];exact bL (ga @N (ga @bB (ga @lR (ga @aN @wj)))) trivial
   subst J;refine AC.seq (bG ?_);refine aC @wj trivial ?_;have b6:M.over=x.over:=by rw[<-b0];exact RT d x
   have a7:=cF w [aa.cells ((aO M).map .d)];have P:(s++[aa.cells ((aO M).map .d)])[s.length]?=some (.cells ((aO M).map .d)):=by simp
   obtain⟨f,X⟩: ∃n,n=s.length:=⟨_,rfl⟩
   rw[<-X]at P⊢;have hne:r≠f:=by have:=(aV.1 w).1;omega
   generalize s++[aa.cells ((aO M).map .d)]=s1 at a7 P⊢;clear w X a5 S T U a0 a2;refine AC.seq (bG ?_);refine aC (ga @P (ga @bB (ga @b6 @wj))) trivial ?_
   refine aZ.overI x.over (λm (b:AV×List ak×List aa)=>[(76,iN m),(11,b.1)]) (λ_ b=>b.2.2) (λr b=>b.2.1++r.map (whole · d)) (x.over.map (whole · d)) (λm b=>Oo b.1 b.2.2 b.2.1/\b.2.2[f]?=some (.cells ((aO M).map .d))/\b.2.2[r]?=some (.vec 46 172 (fM W))/\b.2.1.length=m) (.nil 33,[],s1) a8 aA aA rfl rfl ⟨.inl ⟨rfl,rfl⟩,P,a7,rfl⟩ (λm b y b1 hm A b7 u Z=> ?_) (λb A u Z=> ?_)
   .obtain⟨v,l,t⟩:=b;obtain⟨C,a,c,R⟩:=Z;dsimp only at C a c R u;rw[bX]at u;rcases C with⟨rfl,E⟩|⟨j,rfl,hj,hl1⟩
    .have a3:bw 1 40=true:=by decide
     repeat' first|refine ab (λ_=> ?_) λ_=> ?_|refine aH ?_|refine af.data (cw _) rfl ?_|simp only[A,b7,b1,a3,fe,aN,aM,gG,List.flatten_nil,bq,wj,wy,qg,aE,simprocAttr,ax,aD,aB,aw]
     refine⟨(.vec (t.length+1) 1 33,[whole y d],t++[aa.cells (List.map AV.d (ae y)),aa.vec 32 33 (List.map AV.d (ae (whole y d)))]),rfl,rfl,by rw[u,E];rfl,.inr ⟨t.length+1,rfl,?_,by simp⟩,cF a _,cF c _,by dsimp only;rw[<-R,E];rfl⟩;dsimp only;rw[Q6 (whole y d),iY a8,nQ];rfl
    .have a3:bw (l.length+1) 40=true:=room_le a8 a8;have a9:=xY l;have c3:=cF hj
     repeat' first|refine ab (λ_=> ?_) λ_=> ?_|refine aH ?_|refine af.data (cw _) rfl ?_|simp only[A,b7,b1,a3,hj,c3,a9,fe,aN,Q7,aM,gG,List.flatten_nil,bq,wj,wy,qg,aE,simprocAttr,ax,aD,aB,aw]
     have b2:=(aV.1 hj).1;refine⟨(.vec j (l.length+1) 33,l++[whole y d],(t++[aa.cells (List.map AV.d (ae y))]).set j (aa.vec 32 33 (cV (l++[whole y d])))),rfl,rfl,by rw[u];simp,.inr ⟨j,by simp,?_,by simp⟩,?_,?_,by dsimp only;simp;omega⟩
     .dsimp only;rw[ej (by simp;omega)]
     .dsimp only;rw[bC (by rintro rfl;rw[hj]at a;cases a)];exact cF a _
     .dsimp only;rw[bC (by rintro rfl;rw[hj]at c;cases c)];exact cF c _
   .obtain⟨v,l,t⟩:=b;obtain⟨C,a,c,R⟩:=Z;dsimp only at C a c R u;rw[fi,bq]at u;have B:mD d x={M with over:=l.mergeSort ft}:=by unfold mD;rw[b0,u]
    rcases C with⟨rfl,E⟩|⟨j,rfl,hj,hl1⟩
    .have cs:=λs=>Gc 70 s
     repeat' first|refine ab (λ_=> ?_) λ_=> ?_|refine aG (ga @A @wj) trivial ?_|exact aF (ga @A @wj) trivial|fail
     refine AC.seq (bG ?_)
     repeat' first|refine ab (λ_=> ?_) λ_=> ?_|refine aH ?_|(refine af.fn ((cs _).mono ?_);rintro _ z ⟨rfl,rfl⟩)|simp only[wj,wy,qg,aE,simprocAttr,ax,aD,aB,aw]
     refine AC.toD1 11 [(8,.clo 212 [] [.d (.ref (au d))]),(9,iN k),(10,.ptr f 0),(4,.vec r own.length 172),(34,iN k),(32,.vec r own.length 172),(33,iN own.length)] rfl (show(AV.nil 33).toD=some (.sl 33 (([]:List ak).map ae))from rfl) ⟨rfl,rfl,rfl,rfl,rfl,rfl,rfl,trivial⟩ ?_;rw[E,show([]:List ak).mergeSort ft=[] by simp]at B
     have I: ∀o,(z.set f o)[f]?=some o:=λo=>ej (aV.1 a).1;have a4: ∀o,(z.set f o)[r]?=some (.vec 46 172 (fM W)):=λo=>by rw[bC (Ne.symm hne)];exact c
     have H:=hne;obtain⟨V,K⟩: ∃V,V=mD d x:=⟨_,rfl⟩
     rw[<-K]at B;have G:=Hw (L:=W) (k:=k) a8 V;refine AC.seq (bG ?_);refine aC (ga @a (ga @bB (ga @lR @wj))) trivial ?_;rw[<-B];refine bG ?_;refine aC (ga @I (ga @a4 (ga @H (ga @Q (ga @G (ga @q0 (ga @hk (ga @bB @wj)))))))) trivial ?_;rw[<-a6]
     repeat' first|refine ab (λ_=> ?_) λ_=> ?_|refine aG @wj trivial ?_|exact aF @wj trivial|fail
     refine bG ?_;refine aC (ga @hw @wj) trivial ?_;rw[bX]at O;refine⟨(b++[V],_),rfl,?_,?_,?_⟩
     .dsimp only;rw[O,K,bk];rfl
     .dsimp only;simp[g]
     .dsimp only;rw[ej (by have:=(aV.1 c).1;simp at this⊢;omega),a1,List.set_append_right _ _ a8,g,jc,lh hk,List.set_cons_zero,bk];rfl
    .have cs:=MX hj hl1 a8;refine aC (ga @A @wj) trivial ?_;refine AC.seq (bG ?_);refine sH @wj @cs ?_;have b2:=(aV.1 hj).1;have b3:j≠f:=by rintro rfl;rw[hj]at a;cases a
     have b4:j≠r:=by rintro rfl;rw[hj]at c;cases c
     have c5:(l.mergeSort ft).length=l.length:=lj _
     refine AC.freezeV1 (i:=j) (e:=32) (rows:=(l.mergeSort ft).map ae) 11 [(8,.clo 212 [] [.d (.ref (au d))]),(9,iN k),(10,.ptr f 0),(4,.vec r own.length 172),(34,iN k),(32,.vec r own.length 172),(33,iN own.length)] (by rw[ej b2,r8]) a8 (by rw[aM,c5]) (by have:=List.length_pos_iff.2 hl1;omega) (λr w=>by obtain⟨x,_,rfl⟩:=bM.1 w;exact aN x) rfl ⟨rfl,rfl,rfl,rfl,rfl,rfl,rfl,trivial⟩ ?_
     have a:((t.set j (aa.vec 32 33 (cV (l.mergeSort ft)))).set j .junk)[f]?=some (.cells ((aO M).map .d)):=by rw[bC b3,bC b3];exact a
     have c:((t.set j (aa.vec 32 33 (cV (l.mergeSort ft)))).set j .junk)[r]?=some (.vec 46 172 (fM W)):=by rw[bC b4,bC b4];exact c
     generalize(t.set j (aa.vec 32 33 (cV (l.mergeSort ft)))).set j .junk=z at a c⊢;have I: ∀o,(z.set f o)[f]?=some o:=λo=>ej (aV.1 a).1;have a4: ∀o,(z.set f o)[r]?=some (.vec 46 172 (fM W)):=λo=>by rw[bC (Ne.symm hne)];exact c
     have H:=hne;have E:True:=trivial;obtain⟨V,K⟩: ∃V,V=mD d x:=⟨_,rfl⟩
     rw[<-K]at B;have G:=Hw (L:=W) (k:=k) a8 V;refine AC.seq (bG ?_);refine aC (ga @a (ga @bB (ga @lR @wj))) trivial ?_;rw[<-B];refine bG ?_;refine aC (ga @I (ga @a4 (ga @H (ga @Q (ga @G (ga @q0 (ga @hk (ga @bB @wj)))))))) trivial ?_;rw[<-a6];refine aC @wj trivial ?_;refine bG ?_;refine aC (ga @hw @wj) trivial ?_
     rw[bX]at O;refine⟨(b++[V],_),rfl,?_,?_,?_⟩
     .dsimp only;rw[O,K,bk];rfl
     .dsimp only;simp[g]
     .dsimp only;rw[ej (by have:=(aV.1 c).1;simp at this⊢;omega),a1,List.set_append_right _ _ a8,g,jc,lh hk,List.set_cons_zero,bk];rfl
  .obtain⟨b,s⟩:=b;obtain⟨g,w⟩:=hJ;dsimp only at O g w;refine bG ?_;rw[vp,bq]at w;rw[fi,bq]at O;refine aC (ga @hd @wj) trivial ?_;refine bG ?_;refine aC @wj trivial ?_;have c0:chunk 172 own.length ((b.map aO).flatten)=b.map aO:=by
    have:=vR 172 (b.map aO) λr w=>by obtain⟨x,_,rfl⟩:=bM.1 w;exact bB x
    rw[aM,g]at this;exact this
   have c6:dw (bE s 3) (fM b)=some ((b.map aO).flatten):=EI s 2 _;simp only[w,uc,g,and_self,if_true,c6,eY,c0,O]
 .have h2:(bj aq p).2=(cQ p).2:=by unfold bj;rw[if_pos h]
  have hA:ee p=([],(cQ p).2):=by unfold ee;rw[if_pos (by rw[h2];exact h),h2]
  have N:((cQ p).2 !=0)=true:=by simpa using h
  rw[hA];refine bG ?_
  repeat' first|refine ab (λ_=> ?_) λ_=> ?_|refine aH ?_|(refine af.fn (c1.mono ?_);rintro _ z ⟨v,rfl,hg⟩)|simp only[N,wj,wy,qg,aE,simprocAttr,ax,aD,aB,aw]
  have q:=jC Tryz.prog v
  repeat' first|refine ab (λ_=> ?_) λ_=> ?_|refine aG (ga @q (ga @N @wj)) trivial ?_|exact aF (ga @q (ga @N @wj)) trivial|fail
  all_goals trace_state
theorem BX(p:aU)(hp:bS p)(c:db p):aI Tryz.prog 74 [.agg (br p)] (.tup [.sl 172 ((ee p).1.map aO),dI (ee p).2]):=by
 have b:=UC p hp c;generalize ee p=a at b⊢;refine aL Tryz.f74 ?_ [100001];exact bL @wj @b
end Go.Proofs.Q
