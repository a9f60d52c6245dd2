/- Part of a proof. -/
import Derived.Test.YtfoljakejdgfcaaGreatDoorPBO
import Derived.Test.YtfoljakejdgfcaaGreatDoorPBT
set_option linter.unusedVariables false
set_option linter.unusedSimpArgs false
namespace Go.Proofs.Q
open Go Go.Bb Go.RowKit Go.Proofs.Lg
open Go.Ab (D RD)
theorem Uf(p:b9)(e:cV p)(d:e8 p):aE Tryz.prog 99 [.agg (bk p)] (.tup [.agg (aq (dh bE p).1),dI (dh bE p).2]):=by
 have a:=Ue p e d;have b:=Ya (dK p).1 (by have:=Hf p;omega);unfold dh;by_cases h:(dK p).2=0
 ·rw[h]at a;rw[if_neg (by simpa using h)];clear h;refine aI (F:=rE) IV (by simp[rE]) ?_;simp only[rE];exact bx (ga @eV @bc) (ga @a @b)
 ·have c:((dK p).2 !=0)=true:=by simpa using h
  rw[if_pos h];refine aI (F:=rE) IV (by simp[rE]) ?_;simp only[rE];exact bx (ga @c (ga @eV @bc)) @a
theorem xq(A B:List aJ):eK (A++B)=eK A++eK B:=by simp only[eK,eX,sP]
theorem Gm(L:List aJ)(n:Nat)(h:n≤L.length):(eK L).take (n*172)=eK (L.take n):=by
 conv=>lhs;rw[←ll n L,xq]
 rw[gf (by rw[r8,du];omega),dm (by rw[r8,du];omega)]
theorem Gk(L:List aJ)(n:Nat)(h:n≤L.length):(eK L).drop (n*172)=eK (L.drop n):=by
 conv=>lhs;rw[←ll n L,xq]
 rw[gx,gy (by rw[r8,du];omega),bn,r8,du,nY h,ia,jQ]
theorem ND{L:List aJ}{k:Nat}{d:aJ}(h:L[k]?=some d):((eK L).drop (k*172)).take 172=(aO d).map .d:=by
 obtain⟨a,rfl⟩:=aR.1 h;rw[Gk L k a8,js a];have:=Gm (L[k]::L.drop (k+1)) 1 (by rw[aU];omega);rw[pA]at this;rw[this,jT,List.take_zero,CQ]
theorem Gl{L:List aJ}{k:Nat}(a:k<L.length)(d:aJ):(eK L).take (k*172)++((aO d).map .d++(eK L).drop (k*172+172))=eK (L.set k d):=by
 rw[Gm L k a8,show k*172+172=(k+1)*172 by omega,Gk L (k+1) a8,CQ,←xq,←xq];congr 1;rw[Cv,if_pos a];simp
theorem NL(b:List ar)(x:ar):k9 b++(ab x).map .d=k9 (b++[x]):=by
 rw[xt,xt];simp
theorem NK(x:ar):(ab x).map .d=k9 [x]:=by rw[xt];simp
theorem NJ(b:List ar):(k9 b).length=b.length*33:=by
 unfold k9;rw[aL,wG]
def Ml(v:AV)(s:List aa)(b:List ar):Prop:=(v= .nil 33∧b=[])∨ ∃r,v= .vec r b.length 33∧s[r]?=some (.vec 60 33 (k9 b))∧b≠[]
def nh(d:Dg)(x:aJ):aJ:={jA d x with over:=(x.over.map (whole · d)).mergeSort fP}
def ft(p:b9):List aJ×Int:=if(dh bE p).2≠0 then([],(dh bE p).2)else((dq p).map (nh (dh bE p).1),0)
theorem Gz: ∀(l:List af) (own:List aJ),pC own→pC (eU l own).1
 |[],own,h=>h
 |c::l,own,h=>by
  rw[eU]
  repeat' split
  all_goals first
   |exact fun i a ha=>by simp at ha
   |exact Gz l _ (h.app c)
theorem Oy(p:b9):pC (dq p):=by
 unfold dq;split
 ·exact fun i a ha=>by simp at ha
 ·rename_i h;have c:(dT p).2=0:=by
   unfold dK at h;by_cases b:(dT p).2=0
   ·exact b
   ·rw[if_pos b]at h;exact absurd b h
  obtain⟨_,e,_,d,_⟩:=mY c;rw[d];exact Gz _ _ fun i a ha=>by simp at ha
theorem Hj(p:b9): ∀x∈dq p,x.over.length≤400:=by
 intro x a;unfold dq at a;split at a
 ·cases a
 ·rename_i h;have c:(dT p).2=0:=by
   unfold dK at h;by_cases b:(dT p).2=0
   ·exact b
   ·rw[if_pos b]at h;exact absurd b h
  obtain⟨_,e,_,d,_⟩:=mY c;rw[d]at a;exact CY (by simp) x a
theorem vf(p:b9):(dq p).length≤1604400:=by
 unfold dq;split
 ·exact fM _
 ·rename_i h;have b:(dT p).2=0:=by
   unfold dK at h;by_cases a:(dT p).2=0
   ·exact a
   ·rw[if_pos a]at h;exact absurd a h
  obtain⟨_,d,_,c,_⟩:=mY b;rw[c];have:=CX (l:=p.changes) (own:=[]);simp at this;omega
theorem Z5{i:Nat}{d:Dg}{y:ar}(h:y=dL i):whole y d={y with p:=d}:=by
 subst h;unfold whole;rw[if_pos ⟨by simp[isZero,dL],by simp[dL]⟩]
theorem AC.toD1{P:Program}{N:Nat}{cc:CC}{Q:Exit→Fr→List aa→Prop}{fr:Fr}{s:List aa}(n:Nat)(rest:Fr){y:AV}{d:D}(f:Bb.look fr n=some y)(b:y.toD=some d)(c:lr rest fr)(h:AC P N none cc Q ((n,.d d)::rest) s):AC P N none cc Q fr s:=
 AC.toD (fr':=(n,.d d)::rest) (fun t x a=>by
  unfold Bb.look at a;split at a
  ·rename_i e;subst e;cases a;exact .inr ⟨y,d,f,b,rfl⟩
  ·exact .inl (c.sub t x a)) h
theorem AC.freezeV1{P:Program}{N:Nat}{cc:CC}{Q:Exit→Fr→List aa→Prop}{fr:Fr}{s:List aa}{i e sz k:Nat}{rows:List (List D)}(n:Nat)(rest:Fr)(l:s[i]?=some (.vec e sz (rows.flatten.map .d)))(g:0<sz)(j:rows.length=k)(c:0<k)(f: ∀r∈rows,r.length=sz)
  (m:Bb.look fr n=some (.vec i k sz)) (a:lr rest fr) (h:AC P N none cc Q ((n,.d (.sl sz rows))::rest) (s.set i .junk)):AC P N none cc Q fr s:=
 AC.freezeV (fr':=(n,.d (.sl sz rows))::rest) l g j c f (fun t x b=>by
  unfold Bb.look at b;split at b
  ·rename_i e;subst e;cases b;exact .inr ⟨m,rfl⟩
  ·exact .inl (a.sub t x b)) h
set_option maxHeartbeats 4000000 in
theorem Uj(p:b9)(hp:cV p)(hN:e8 p):aE Tryz.prog 139 [.agg (bk p)] (.tup [.sl 172 ((ft p).1.map aO),dI (ft p).2]):=by
 have c1:=JJ p hp hN;have c2:=Uf p hp hN;have D:=Oy p;have b6:=Hj p;have c5:=vf p;refine ph (F:=za) RX (by simp[za]) ?_;simp only[za];refine AC.seq (bL ?_);refine aw @wj trivial ?_;by_cases h:(dK p).2=0
 ·have h2:(dh bE p).2=0:=by unfold dh;rw[if_neg (by simpa using h)]
  obtain⟨d,hd⟩: ∃d,d=(dh bE p).1:=⟨_,rfl⟩
  obtain⟨own,G⟩: ∃own,own=dq p:=⟨_,rfl⟩
  have hA:ft p=(own.map (nh d),0):=by unfold ft;rw[if_neg (by simpa using h2),hd,G]
  rw[h]at c1;rw[h2,←hd]at c2;rw[hA];rw[←G]at c1 D b6 c5;refine AC.seq (bL ?_)
  repeat' first|refine ak (fun _=> ?_) fun _=> ?_|refine aD ?_|(refine aj.fn (c1.mono ?_);rintro _ z ⟨v,rfl,hg⟩)|simp only[wj,wy,qg,aC,reduceCtorEq,reduceIte,Nat.reduceAdd,Nat.reduceMul,Nat.reduceEqDiff,Nat.reduceLT,Nat.reduceLeDiff,Nat.reduceSub,ax,aB,ay,au]
  have q:=iH Tryz.prog v;refine aw (ga @q @wj) trivial ?_;clear c1 hd G hA h h2;refine AC.seq (bL ?_);refine aw (ga @q @wj) trivial ?_;refine AC.seq (bL ?_);refine aw (ga @q (ga @bc (ga @eV @wj))) @c2 ?_;refine AC.seq (bL ?_);refine aw (ga @q @wj) trivial ?_
  refine AC.freeze (i:=z.length) (ds:=aq d) (fr':=[(7,.d (.ref (aq d))),(4,v)]) (by simp) (fun t x hx=> ?_) ?_
  ·unfold Bb.look at hx;split at hx
   ·rename_i e;subst e;cases hx;exact .inr ⟨rfl,rfl⟩
   ·obtain⟨rfl,rfl⟩:=tO hx;exact .inl rfl
  refine AC.seq (bL ?_);refine aw (ga @q @wj) trivial ?_;have cw:=fun y=>Ui y d;rcases hg with⟨rfl,hn⟩|⟨r,rfl,w⟩
  ·rw[hn];refine bL ?_;refine aw @wj trivial ?_;refine aX.tr (fun _:Unit=>[]) (fun _=>_) (fun _ _=>True) 0 () aA aA rfl trivial ?_;rintro m _ _;exact bx @wj trivial
   all_goals first|rfl|trace_state
  have hS:(z++[aa.junk])[r]?=some (.vec 71 172 (eK own)):=bP w _;generalize z++[aa.junk]=s0 at hS⊢;clear w q c2;refine AC.seq (AC.seq (bL ?_));refine aw @wj trivial ?_;refine AC.block ?_
  refine AC.overI own (fun k (b:List aJ×List aa)=>[(34,iN k)]) (fun _ b=>b.2) (fun r b=>b.1++r.map (nh d)) (own.map (nh d)) (fun k b=>b.1.length=k∧b.2[r]?=some (.vec 71 172 (eK (b.1++own.drop k)))) ([],s0) a8 aA aA rfl rfl ⟨rfl,hS⟩ (fun k b x hg hk hd hw P hJ=> ?_) (fun b hd P hJ=> ?_)
  ·obtain⟨b,s⟩:=b;obtain⟨g,w⟩:=hJ;dsimp only at P g w;refine AC.seq (bL ?_);refine aw (ga @hd (ga @hw @wj)) trivial ?_;refine AC.seq (bL ?_);refine aw @wj trivial ?_;refine AC.seq (AC.block ?_);generalize a7:la 1 _=QB;obtain⟨X,a2⟩: ∃X,X=b++own.drop k:=⟨_,rfl⟩
   have hL:(b++own.drop k).length=own.length:=by rw[aN,ax];omega
   have a3:(b++own.drop k)[k]?=some x:=by rw[gZ a8,g,ia,fB,ay];exact hg
   have R:(eK (b++own.drop k)).length=own.length*172:=by rw[r8,hL]
   have a0:=ND a3;have q0:k*172+172≤own.length*172:=by omega
   rw[←a2]at w hL a3 R a0;have c0:=D k x hg;have c8:=b6 x (bT hg);refine AC.seq (bL ?_);refine aw (ga @w (ga @hk (ga @R (ga @a0 (ga @q0 (ga @bJ (ga @ef @wj))))))) trivial ?_;refine AC.seq (bL ?_)
   repeat' first|refine ak (fun _=> ?_) fun _=> ?_|refine aD ?_|refine aj.data (cw _) rfl ?_|simp only[Z5 c0,bJ,jI,vR,aM,aL,wj,wy,qg,aC,reduceCtorEq,reduceIte,Nat.reduceAdd,Nat.reduceMul,Nat.reduceEqDiff,Nat.reduceLT,Nat.reduceLeDiff,Nat.reduceSub,ax,aB,ay,au]
   obtain⟨y1,a6⟩: ∃y:aJ,y={x with id:={x.id with p:=d}}:=⟨_,rfl⟩
   obtain⟨y2,T⟩: ∃y:aJ,y=if y1.kind≠7 then{y1 with file:=whole y1.file d}else y1:=⟨_,rfl⟩
   obtain⟨Z,U⟩: ∃y:aJ,y=if y2.kind=2 then{y2 with parent:=whole y2.parent d}else y2:=⟨_,rfl⟩
   obtain⟨N,V⟩: ∃y:aJ,y=if Z.kind=6 then{Z with fro:=whole Z.fro d,til:=whole Z.til d}else Z:=⟨_,rfl⟩
   have b1:jA d x=N:=by rw[V,U,T,a6];rfl
   rw[←a6];clear D hS c0;refine AC.cutJ [8,9,10,4,34,32,33] [(8,.clo 193 [] [.d (.ref (aq d))]),(9,iN k),(10,.ptr s.length 0),(4,.vec r own.length 172),(34,iN k),(32,.vec r own.length 172),(33,iN own.length)] (fun z=>z=s++[.cells ((aO y2).map .d)]) ?_ (fun s2 K=> ?_)
   ·by_cases h:y1.kind=7
    ·rw[T,if_neg (by simpa using h)];exact bx (ga @h (ga @bJ (ga @jI (ga @aM @wj)))) trivial
    ·have O:(y1.kind !=7)=true:=by simpa using h
     rw[T,if_pos h];exact bx (ga @O (ga @bJ (ga @jI (ga @aM @wj)))) @cw
   subst K;refine AC.cutJ [8,9,10,4,34,32,33] [(8,.clo 193 [] [.d (.ref (aq d))]),(9,iN k),(10,.ptr s.length 0),(4,.vec r own.length 172),(34,iN k),(32,.vec r own.length 172),(33,iN own.length)] (fun z=>z=s++[.cells ((aO Z).map .d)]) ?_ (fun s2 K=> ?_)
   ·by_cases h:y2.kind=2
    ·rw[U,if_pos h]
     repeat' first|refine ak (fun _=> ?_) fun _=> ?_|refine aD ?_|refine aj.data (cw _) rfl ?_|simp only[h,beq_self_eq_true,bJ,jI,aM,aL,wj,wy,qg,aC,reduceCtorEq,reduceIte,Nat.reduceAdd,Nat.reduceMul,Nat.reduceEqDiff,Nat.reduceLT,Nat.reduceLeDiff,Nat.reduceSub,ax,aB,ay,au]
    ·have O:(y2.kind==2)=false:=by simpa using h
     rw[U,if_neg h];exact bx (ga @O (ga @bJ (ga @jI (ga @aM @wj)))) trivial
   subst K;refine AC.cutJ [8,9,10,4,34,32,33] [(8,.clo 193 [] [.d (.ref (aq d))]),(9,iN k),(10,.ptr s.length 0),(4,.vec r own.length 172),(34,iN k),(32,.vec r own.length 172),(33,iN own.length)] (fun z=>z=s++[.cells ((aO N).map .d)]) ?_ (fun s2 K=> ?_)
   ·by_cases h:Z.kind=6
    ·rw[V,if_pos h]
     repeat' first|refine ak (fun _=> ?_) fun _=> ?_|refine aD ?_|refine aj.data (cw _) rfl ?_|simp only[h,beq_self_eq_true,bJ,jI,aM,aL,wj,wy,qg,aC,reduceCtorEq,reduceIte,Nat.reduceAdd,Nat.reduceMul,Nat.reduceEqDiff,Nat.reduceLT,Nat.reduceLeDiff,Nat.reduceSub,ax,aB,ay,au]
    ·have O:(Z.kind==6)=false:=by simpa using h
     rw[V,if_neg h];exact bx (ga @O (ga @bJ (ga @jI (ga @aM @wj)))) trivial
   subst K;refine AC.seq (bL ?_);refine aw @wj trivial ?_;have b7:N.over=x.over:=by rw[←b1];exact Pb d x
   have a9:=bP w [aa.cells ((aO N).map .d)];have Q:(s++[aa.cells ((aO N).map .d)])[s.length]?=some (.cells ((aO N).map .d)):=by simp
   obtain⟨f,Y⟩: ∃n,n=s.length:=⟨_,rfl⟩
   rw[←Y]at Q⊢;have hne:r≠f:=by have:=(aR.1 w).1;omega
   generalize s++[aa.cells ((aO N).map .d)]=s1 at a9 Q⊢;clear w Y a6 T U V a0 a3;refine AC.seq (bL ?_);refine aw (ga @Q (ga @bJ (ga @b7 @wj))) trivial ?_
   refine aX.overI x.over (fun m (b:AV×List ar×List aa)=>[(76,iN m),(11,b.1)]) (fun _ b=>b.2.2) (fun r b=>b.2.1++r.map (whole · d)) (x.over.map (whole · d)) (fun m b=>Ml b.1 b.2.2 b.2.1∧b.2.2[f]?=some (.cells ((aO N).map .d))∧b.2.2[r]?=some (.vec 71 172 (eK X))∧b.2.1.length=m) (.nil 33,[],s1) a8 aA aA rfl rfl ⟨.inl ⟨rfl,rfl⟩,Q,a9,rfl⟩ (fun m b y b2 hm A b8 u a1=> ?_) (fun b A u a1=> ?_)
   ·obtain⟨v,l,t⟩:=b;obtain⟨C,a,c,S⟩:=a1;dsimp only at C a c S u;rw[bO]at u;rcases C with⟨rfl,E⟩|⟨j,rfl,hj,hl1⟩
    ·have a4:br 1 40=true:=by decide
     repeat' first|refine ak (fun _=> ?_) fun _=> ?_|refine aD ?_|refine aj.data (cw _) rfl ?_|simp only[A,b8,b2,a4,fS,aM,aL,fA,List.flatten_nil,bg,wj,wy,qg,aC,reduceCtorEq,reduceIte,Nat.reduceAdd,Nat.reduceMul,Nat.reduceEqDiff,Nat.reduceLT,Nat.reduceLeDiff,Nat.reduceSub,ax,aB,ay,au]
     refine⟨(.vec (t.length+1) 1 33,[whole y d],t++[aa.cells (List.map AV.d (ab y)),aa.vec 60 33 (List.map AV.d (ab (whole y d)))]),rfl,rfl,by rw[u,E];rfl,.inr ⟨t.length+1,rfl,?_,by simp⟩,bP a _,bP c _,by dsimp only;rw[←S,E];rfl⟩;dsimp only;rw[NK (whole y d),gZ a8,mR];rfl
    ·have a4:br (l.length+1) 40=true:=room_le a8 a8;have b0:=NJ l;have c4:=bP hj
     repeat' first|refine ak (fun _=> ?_) fun _=> ?_|refine aD ?_|refine aj.data (cw _) rfl ?_|simp only[A,b8,b2,a4,hj,c4,b0,fS,aM,NL,aL,fA,List.flatten_nil,bg,wj,wy,qg,aC,reduceCtorEq,reduceIte,Nat.reduceAdd,Nat.reduceMul,Nat.reduceEqDiff,Nat.reduceLT,Nat.reduceLeDiff,Nat.reduceSub,ax,aB,ay,au]
     have b3:=(aR.1 hj).1;refine⟨(.vec j (l.length+1) 33,l++[whole y d],(t++[aa.cells (List.map AV.d (ab y))]).set j (aa.vec 60 33 (k9 (l++[whole y d])))),rfl,rfl,by rw[u];simp,.inr ⟨j,by simp,?_,by simp⟩,?_,?_,by dsimp only;simp;omega⟩
     ·dsimp only;rw[dJ (by simp;omega)]
     ·dsimp only;rw[bs (by rintro rfl;rw[hj]at a;cases a)];exact bP a _
     ·dsimp only;rw[bs (by rintro rfl;rw[hj]at c;cases c)];exact bP c _
   ·obtain⟨v,l,t⟩:=b;obtain⟨C,a,c,S⟩:=a1;dsimp only at C a c S u;rw[eg,bg]at u;have B:nh d x={N with over:=l.mergeSort fP}:=by unfold nh;rw[b1,u]
    rcases C with⟨rfl,E⟩|⟨j,rfl,hj,hl1⟩
    ·have cs:=fun s=>Ys 97 s
     repeat' first|refine ak (fun _=> ?_) fun _=> ?_|refine bb (ga @A @wj) trivial ?_|exact ba (ga @A @wj) trivial|fail
     refine AC.seq (bL ?_)
     repeat' first|refine ak (fun _=> ?_) fun _=> ?_|refine aD ?_|(refine aj.fn ((cs _).mono ?_);rintro _ z ⟨rfl,rfl⟩)|simp only[wj,wy,qg,aC,reduceCtorEq,reduceIte,Nat.reduceAdd,Nat.reduceMul,Nat.reduceEqDiff,Nat.reduceLT,Nat.reduceLeDiff,Nat.reduceSub,ax,aB,ay,au]
     refine AC.toD1 11 [(8,.clo 193 [] [.d (.ref (aq d))]),(9,iN k),(10,.ptr f 0),(4,.vec r own.length 172),(34,iN k),(32,.vec r own.length 172),(33,iN own.length)] rfl (show(AV.nil 33).toD=some (.sl 33 (([]:List ar).map ab))from rfl) ⟨rfl,rfl,rfl,rfl,rfl,rfl,rfl,trivial⟩ ?_;rw[E,show([]:List ar).mergeSort fP=[] by simp]at B
     have J: ∀o,(z.set f o)[f]?=some o:=fun o=>dJ (aR.1 a).1;have a5: ∀o,(z.set f o)[r]?=some (.vec 71 172 (eK X)):=fun o=>by rw[bs (Ne.symm hne)];exact c
     have I:=hne;obtain⟨W,M⟩: ∃W,W=nh d x:=⟨_,rfl⟩
     rw[←M]at B;have H:=Gl (L:=X) (k:=k) a8 W;refine AC.seq (bL ?_);refine aw (ga @a (ga @bJ (ga @jI @wj))) trivial ?_;rw[←B];refine bL ?_;refine aw (ga @J (ga @a5 (ga @I (ga @R (ga @H (ga @q0 (ga @hk (ga @bJ @wj)))))))) trivial ?_;rw[←a7]
     repeat' first|refine ak (fun _=> ?_) fun _=> ?_|refine bb @wj trivial ?_|exact ba @wj trivial|fail
     refine bL ?_;refine aw (ga @hw @wj) trivial ?_;rw[bO]at P;refine⟨(b++[W],_),rfl,?_,?_,?_⟩
     ·dsimp only;rw[P,M,bj];rfl
     ·dsimp only;simp[g]
     ·dsimp only;rw[dJ (by have:=(aR.1 c).1;simp at this⊢;omega),a2,List.set_append_right _ _ a8,g,ia,js hk,List.set_cons_zero,bj];rfl
    ·have cs:=Yt hj hl1 a8;refine aw (ga @A @wj) trivial ?_;refine AC.seq (bL ?_);refine pY @wj @cs ?_;have b3:=(aR.1 hj).1;have b4:j≠f:=by rintro rfl;rw[hj]at a;cases a
     have b5:j≠r:=by rintro rfl;rw[hj]at c;cases c
     have c6:(l.mergeSort fP).length=l.length:=kJ _
     refine AC.freezeV1 (i:=j) (e:=60) (rows:=(l.mergeSort fP).map ab) 11 [(8,.clo 193 [] [.d (.ref (aq d))]),(9,iN k),(10,.ptr f 0),(4,.vec r own.length 172),(34,iN k),(32,.vec r own.length 172),(33,iN own.length)] (by rw[dJ b3,xt]) a8 (by rw[aL,c6]) (by have:=List.length_pos_iff.2 hl1;omega) (fun r w=>by obtain⟨x,_,rfl⟩:=cy.1 w;exact aM x) rfl ⟨rfl,rfl,rfl,rfl,rfl,rfl,rfl,trivial⟩ ?_
     have a:((t.set j (aa.vec 60 33 (k9 (l.mergeSort fP)))).set j .junk)[f]?=some (.cells ((aO N).map .d)):=by rw[bs b4,bs b4];exact a
     have c:((t.set j (aa.vec 60 33 (k9 (l.mergeSort fP)))).set j .junk)[r]?=some (.vec 71 172 (eK X)):=by rw[bs b5,bs b5];exact c
     generalize(t.set j (aa.vec 60 33 (k9 (l.mergeSort fP)))).set j .junk=z at a c⊢;have J: ∀o,(z.set f o)[f]?=some o:=fun o=>dJ (aR.1 a).1;have a5: ∀o,(z.set f o)[r]?=some (.vec 71 172 (eK X)):=fun o=>by rw[bs (Ne.symm hne)];exact c
     have I:=hne;have E:True:=trivial;obtain⟨W,M⟩: ∃W,W=nh d x:=⟨_,rfl⟩
     rw[←M]at B;have H:=Gl (L:=X) (k:=k) a8 W;refine AC.seq (bL ?_);refine aw (ga @a (ga @bJ (ga @jI @wj))) trivial ?_;rw[←B];refine bL ?_;refine aw (ga @J (ga @a5 (ga @I (ga @R (ga @H (ga @q0 (ga @hk (ga @bJ @wj)))))))) trivial ?_;rw[←a7];refine aw @wj trivial ?_;refine bL ?_;refine aw (ga @hw @wj) trivial ?_
     rw[bO]at P;refine⟨(b++[W],_),rfl,?_,?_,?_⟩
     ·dsimp only;rw[P,M,bj];rfl
     ·dsimp only;simp[g]
     ·dsimp only;rw[dJ (by have:=(aR.1 c).1;simp at this⊢;omega),a2,List.set_append_right _ _ a8,g,ia,js hk,List.set_cons_zero,bj];rfl
  ·obtain⟨b,s⟩:=b;obtain⟨g,w⟩:=hJ;dsimp only at P g w;refine bL ?_;rw[sO,bg]at w;rw[eg,bg]at P;refine aw (ga @hd @wj) trivial ?_;refine bL ?_;refine aw @wj trivial ?_;have c3:chunk 172 own.length ((b.map aO).flatten)=b.map aO:=by
    have:=xy 172 (b.map aO) fun r w=>by obtain⟨x,_,rfl⟩:=cy.1 w;exact bJ x
    rw[aL,g]at this;exact this
   have c7:cU (bu s 3) (eK b)=some ((b.map aO).flatten):=DL s 2 _;simp only[w,r8,g,and_self,if_true,c7,eY,c3,P]
 ·have h2:(dh bE p).2=(dK p).2:=by unfold dh;rw[if_pos h]
  have hA:ft p=([],(dK p).2):=by unfold ft;rw[if_pos (by rw[h2];exact h),h2]
  have O:((dK p).2 !=0)=true:=by simpa using h
  rw[hA];refine bL ?_
  repeat' first|refine ak (fun _=> ?_) fun _=> ?_|refine aD ?_|(refine aj.fn (c1.mono ?_);rintro _ z ⟨v,rfl,hg⟩)|simp only[O,wj,wy,qg,aC,reduceCtorEq,reduceIte,Nat.reduceAdd,Nat.reduceMul,Nat.reduceEqDiff,Nat.reduceLT,Nat.reduceLeDiff,Nat.reduceSub,ax,aB,ay,au]
  have q:=iH Tryz.prog v
  repeat' first|refine ak (fun _=> ?_) fun _=> ?_|refine bb (ga @q (ga @O @wj)) trivial ?_|exact ba (ga @q (ga @O @wj)) trivial|fail
theorem JG(p:b9)(d:cV p)(c:e8 p):aE Tryz.prog 94 [.agg (bk p)] (.tup [.sl 172 ((ft p).1.map aO),dI (ft p).2]):=by
 have b:=Uj p d c;generalize ft p=a at b⊢;refine aI (F:=yV) RP (by simp[yV]) ?_;simp only[yV];exact bx @wj @b
end Go.Proofs.Q
