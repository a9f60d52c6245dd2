/- Lemmas. -/
import Derived.Test.YtikhfhjohjfamaaGreatDoorPAZ
import Derived.Test.YtikhfhjohjfamaaGreatDoorZT
set_option linter.unusedVariables false
set_option linter.unusedSimpArgs false
set_option maxRecDepth 100000
namespace Go.Proofs.Q
open Go Go.Bb Go.RowKit Go.Proofs.Lg
open Go.Ab (D RD)
def sL(l:List bb)(r:Int):Int:=if mH l≠0 then mH l else r
theorem SS(x:bb)(l:List bb)(r:Int):sL (x::l) r=if mF x then sL l r else 3:=by
 unfold sL;rw[mH];by_cases h:mF x=true
 .simp[h]
 .simp[h]
theorem SU(r:Int):sL [] r=r:=by simp[sL,mH]
def wJ(c:az):Int:=if c.kind=7/\(c.over.length:Int)=0 then 1 else if 400<(c.over.length:Int)then 4 else if iR c.over=false then 9 else 0
theorem Rt(c:az):yo c=if c.kind<1\/7<c.kind then 8
 else if lX c=false then 1
 else if c.kind=1/\(c.type<1\/4<c.type)then 8
 else if c.kind=2/\isName c.name=false then 5
 else if c.mode<0\/511<c.mode then 2
 else if 65536<(c.data.size:Int)then 4
 else if c.kind=5/\(c.lines.length:Int)=0 then 1
 else if 2000<(c.lines.length:Int)then 4
 else sL c.lines (wJ c):=rfl
set_option maxHeartbeats 4000000 in
theorem Uz(c:az)(z:c.name.size<=9223372036854775807):aI Tryz.prog 233 [.agg (aR c)] (dI (fm c)):=by
 rw[<-IQ];obtain⟨X,e⟩: ∃X,X=yo c:=⟨_,rfl⟩
 rw[<-e];rw[Rt]at e;by_cases h0:c.kind<1\/7<c.kind
 .rw[if_pos h0]at e;refine aL Tryz.f233 ?_ [100001] [[75,73,1,74],[5,1]]
  repeat' first|refine ab (λ_=> ?_) λ_=> ?_|refine aH ?_|simp only[gt_iff_lt,wy,qg,aE,simprocAttr,ax,aD,aB,aw]
  all_goals first|(rw[e];done)|omega
 rw[if_neg h0]at e;have j:decide (c.kind<1)=false:=by simp;omega
 have l:decide (c.kind>7)=false:=by simp;omega
 have f:=UP c a8 a8;by_cases h:lX c=false
 .rw[if_pos h]at e;rw[h]at f;refine aL Tryz.f233 ?_ [100001] [[75,73,1,74],[5,1]]
  repeat' first|refine ab (λ_=> ?_) λ_=> ?_|refine aH ?_|refine af.data (f) rfl ?_|simp only[j,l,wy,qg,aE,simprocAttr,ax,aD,aB,aw]
  all_goals(rw[e];done)
 rw[if_neg h]at e;rw[show lX c=true by simpa using h]at f;have i:=L3 c.name z;obtain⟨A,q⟩: ∃A,A=isName c.name:=⟨_,rfl⟩
 rw[<-q]at e i;obtain⟨Y,n⟩: ∃Y,Y=sL c.lines (wJ c):=⟨_,rfl⟩
 rw[<-n]at e;clear h0 h q z;refine pB Tryz.f233 ?_ [100001] [[75,73,1,74],[5,1]];refine AC.cut [1] [(1,.d (.ref (aR c)))] [] True ?_ λJ _=> ?_
 .repeat' first|refine ab (λ_=> ?_) λ_=> ?_|refine aH ?_|simp only[decide_true,wy,qg,aE,simprocAttr,ax,aD,aB,aw]
  all_goals exact⟨_,rfl⟩
 refine AC.cut [1] [(1,.d (.ref (aR c)))] [] (X=Y/\c.lines.length<=2000) ?_ λJ B=> ?_
 .repeat' first|refine ab (λ_=> ?_) λ_=> ?_|refine aH ?_|refine af.data (f) rfl ?_|refine af.data (i) rfl ?_|simp only[j,l,gt_iff_lt,wy,qg,aE,simprocAttr,ax,aD,aB,aw]
  all_goals first
   |(
     refine⟨⟨_,rfl⟩,?_,by omega⟩;clear n f i j l
     first|(simp_all;done)|(simp_all;intros;omega)|((repeat'(split at e))<;>first|exact e|(exfalso;omega)|(exfalso;simp_all;done)|(exfalso;simp_all;omega)))
   |(clear n f i j l;simp_all;done)
   |(clear n f i j l;simp_all;omega)
 obtain⟨rfl,p⟩:=B;clear e f i j l;refine AC.cut [1] [(1,.d (.ref (aR c)))] [] (X=wJ c) ?_ λJ t=> ?_
 .repeat' first|refine ab (λ_=> ?_) λ_=> ?_|refine aH ?_|simp only[decide_true,wy,qg,aE,simprocAttr,ax,aD,aB,aw]
  refine aZ.over c.lines (λk (_:Unit)=>[(75,iN k)]) (λ_ _=>[]++J) (λr _=>sL r (wJ c)) X () a8 aA aA rfl n (λk _ x hg hk g v a=> ?_) (λ_ g a=> ?_)
  .have s:=SX x;rw[SS]at a;by_cases u:mF x=true
   .rw[if_pos u]at a;rw[u]at s
    repeat' first|refine ab (λ_=> ?_) λ_=> ?_|refine aH ?_|refine af.data (s) rfl ?_|simp only[g,v,hg,fA,wy,qg,aE,simprocAttr,ax,aD,aB,aw]
    all_goals exact⟨(),a⟩
   .rw[if_neg u]at a;rw[show mF x=false by simpa using u]at s
    repeat' first|refine ab (λ_=> ?_) λ_=> ?_|refine aH ?_|refine af.data (s) rfl ?_|simp only[g,v,hg,fA,wy,qg,aE,simprocAttr,ax,aD,aB,aw]
    all_goals rw[a]
  .rw[SU]at a
   repeat' first|refine ab (λ_=> ?_) λ_=> ?_|refine aH ?_|simp only[g,wy,qg,aE,simprocAttr,ax,aD,aB,aw]
   all_goals exact⟨⟨_,rfl⟩,a⟩
 clear n p;refine AC.cut [1] [(1,.d (.ref (aR c)))] [] (X=(if iR c.over=false then 9 else 0)/\c.over.length<=400) ?_ λJ o=> ?_
 .repeat' first|refine ab (λ_=> ?_) λ_=> ?_|refine aH ?_|simp only[gt_iff_lt,wy,qg,aE,simprocAttr,ax,aD,aB,aw]
  all_goals first
   |(refine⟨⟨_,rfl⟩,?_,by omega⟩;rw[t];unfold wJ;clear t;first|(rw[if_neg (by simp_all),if_neg a8];done)|(rw[if_neg (by simp_all;omega),if_neg a8];done))
   |(rw[t];unfold wJ;clear t;first|(rw[if_pos (by simp_all)];done)|(rw[if_neg (by simp_all;omega),if_pos a8];done)|(rw[if_neg (by simp_all),if_pos a8];done))
 obtain⟨o,C⟩:=o;refine bG ?_
 repeat' first|refine ab (λ_=> ?_) λ_=> ?_|refine aH ?_|simp only[decide_true,wy,qg,aE,simprocAttr,ax,aD,aB,aw]
 refine aZ.tr (λ(b:Nat×List aa)=>[(5,iN (b.1+1))]) (λb=>b.2) (λm b=>m+b.1=c.over.length/\iR c.over=iR (c.over.drop b.1)) c.over.length (0,J) aA aA rfl ⟨rfl,rfl⟩ ?_;rintro m ⟨k,J⟩ ⟨hm,a⟩;dsimp only at hm a;by_cases hk:k+1<c.over.length
 .have h0:c.over[k]?=some c.over[k]:=bQ a8;have h:c.over[k+1]?=some c.over[k+1]:=bQ hk;have g:decide (((k+1:Nat):Int)<(c.over.length:Int))=true:=by simp;omega
  have v:IntKind.i64.wrap (((k+1:Nat):Int)+1)=((k+1+1:Nat):Int):=bN a8 a8;have y:IntKind.i64.wrap (((k+1:Nat):Int)-1)=(k:Int):=bN a8 a8;rw[lh (by omega:k<c.over.length),lh hk]at a
  repeat' first|refine ab (λ_=> ?_) λ_=> ?_|refine aH ?_|refine af.data (F0 _ _) rfl ?_|simp only[g,v,y,h0,h,wy,qg,aE,simprocAttr,ax,aD,aB,aw]
  .rename_i hc;rw[iR,if_pos (by simpa using hc)]at a;rw[o,a];rfl
  .rename_i hc;rw[iR,if_neg (by simpa using hc),<-lh hk]at a;exact⟨m-1,(k+1,J),by omega,rfl,rfl,by omega,a⟩
 .have g:decide (((k+1:Nat):Int)<(c.over.length:Int))=false:=by simp;omega
  have w:iR (c.over.drop k)=true:=by
   have:(c.over.drop k).length<=1:=by rw[ax];omega
   match c.over.drop k,this with
   |[],_=>rfl
   |[_],_=>rfl
  rw[w]at a;rw[a]at o
  repeat' first|refine ab (λ_=> ?_) λ_=> ?_|refine aH ?_|simp only[g,wy,qg,aE,simprocAttr,ax,aD,aB,aw]
  all_goals(rw[o];simp)
theorem F6{s:ar}(g:bT (b8 s))(d:Dg):putAt d s 0<=s.length/\(∀(k:Nat) (x:bD),s[k]?=some x->k<putAt d s 0->decide (bY x.id d<0)=true)/\(∀(k:Nat) (x:bD),s[k]?=some x->putAt d s 0<=k->decide (bY x.id d<0)=false):=by
 have key: ∀(s:ar) (n:Nat),bT (b8 s)-> ∃j,putAt d s n=n+j/\j<=s.length/\(∀(k:Nat) (x:bD),s[k]?=some x->k<j->decide (bY x.id d<0)=true)/\(∀(k:Nat) (x:bD),s[k]?=some x->j<=k->decide (bY x.id d<0)=false):=by
  intro s
  induction s with
  |nil=>intro n _;exact⟨0,rfl,bg _,by simp,by simp⟩
  |cons y s r=>
   intro n g;obtain⟨l,m⟩:=gX.1 (show bT (y.id::b8 s)from g);rw[putAt];by_cases h:bY y.id d<0
   .obtain⟨j,a,i,b,c⟩:=r (n+1) m;rw[if_pos h];refine⟨j+1,by omega,by simp;omega,λk x hk e=> ?_,λk x hk q=> ?_⟩
    .cases k with
     |zero=>simp at hk;subst hk;simpa using h
     |succ k=>exact b k x (by simpa using hk) a8
    .cases k with
     |zero=>omega
     |succ k=>exact c k x (by simpa using hk) a8
   .rw[if_neg h];refine⟨0,rfl,fG _,λk x hk e=>by omega,λk x hk _=> ?_⟩;cases k with
    |zero=>simp at hk;subst hk;simpa using h
    |succ k=>
     have hm:x.id∈b8 s:=eR (f:=bD.id) (bR (by simpa using hk));have o:=l x.id hm;rw[decide_eq_false_iff_not];intro p;exact h (nk o p)
 obtain⟨j,a,i,b,c⟩:=key s 0 g;rw[aw]at a;rw[a];exact⟨i,b,c⟩
theorem Ji{s:ar}(j:bT (b8 s))(d:Dg):bI (b8 s) d=(decide (putAt d s 0<s.length)&&match s[putAt d s 0]? with|none=>false|some x=>bY x.id d==0):=by
 obtain⟨v,p,q⟩:=F6 j d;rw[l6,jA];constructor
 .intro hm;obtain⟨x,u,rfl⟩:=bM.1 hm;obtain⟨k,hk⟩:=fE u;have r:=(aV.1 hk).1;have n:putAt x.id s 0<=k:=by
   apply fX;intro a;have:=p k x hk a8;exact oW _ (by simpa using this)
  obtain⟨y,b⟩:=lC (l:=s) (i:=putAt x.id s 0) a8;have c:=q _ y b (bg _);have o:y.id=x.id:=by
   rcases Nat.lt_or_eq_of_le n with a|heq
   .exfalso;obtain⟨hp,e⟩:=aV.1 b;obtain⟨t,m⟩:=aV.1 hk;have:=s7.1 (List.pairwise_map.1 j) (putAt x.id s 0) k hp t a;rw[e,m]at this;rw[decide_eq_false_iff_not]at c;exact c this
   .rw[heq,hk]at b;rw[aJ b]
  rw[b];simp only[dW,decide_eq_true_eq];exact⟨by omega,by rw[o,(k8 x.id x.id).2 rfl];rfl⟩
 .intro h;simp only[dW,decide_eq_true_eq]at h;obtain⟨a,g⟩:=h;obtain⟨y,b⟩:=lC (l:=s) (i:=putAt d s 0) a;rw[b]at g;have:y.id=d:=(k8 _ _).1 (by simpa using g);rw[<-this];exact eR (f:=bD.id) (bR b)
theorem Ve(x:bD)(d:Dg):aI Tryz.prog 182 [.agg (aX x),.agg (au d)] (dI (bY x.id d)):=by
 refine aL Tryz.f182 ?_ [100002,100003]
 repeat' first|refine ab (λ_=> ?_) λ_=> ?_|refine aG @wj @zD ?_|exact aF @wj @zD|fail
 all_goals first|rfl|(rename_i h;rw[h])
set_option maxHeartbeats 1000000 in
theorem PM(s:ar)(E:s.length<=1000000)(y:bT (b8 s))(d:Dg)(st:List aa):bs Tryz.prog 181 [.d (.sl 37 (s.map aX)),.d (.agg (au d)),.clo 182 [] []] st λv p=>v= .tup [iN (putAt d s 0),.d (dB (bI (b8 s) d))]/\p=st:=by
 obtain⟨r,t,u⟩:=F6 y d;have a:=Ji y d;have cc:=λx=>Ve x d;generalize putAt d s 0=P at r t u a⊢;generalize bI (b8 s) d=B at a⊢;refine cz Tryz.f181 ?_ [100004] [[4,0,2,10,9,8]]
 repeat' first|refine ab (λ_=> ?_) λ_=> ?_|refine aG @wj trivial ?_|exact aF @wj trivial|fail
 refine aZ.tr (λ(b:Nat×Nat)=>[(9,iN b.1),(10,iN b.2)]) (λ_=>st) (λm b=>m+b.1=b.2/\b.1<=P/\P<=b.2/\b.2<=s.length) s.length (0,s.length) aA aA rfl ⟨by omega,by omega,r,bg _⟩ ?_;rintro m ⟨i,j⟩ ⟨hm,hi,C,n⟩;dsimp only at hm hi C n⊢;by_cases D:i<j
 .obtain⟨z,v2,v3,v4⟩:=wm (i:=i) (j:=j) a8;obtain⟨x,c⟩:=lC (l:=s) (i:=(i+j)/2) a8;have f:decide ((i:Int)<(j:Int))=true:=by simp;omega
  have v5:IntKind.i64.wrap ((((i+j)/2:Nat):Int)+1)=(((i+j)/2+1:Nat):Int):=bN a8 a8;clear a;by_cases A:(i+j)/2<P
  .have k:=t _ x c A
   repeat' first|refine ab (λ_=> ?_) λ_=> ?_|refine aH ?_|refine af.data (cc _) rfl ?_|simp only[f,z,v2,v3,v4,v5,c,k,Int.reduceLE,wj,wy,qg,aE,reduceCtorEq,reduceIte,Nat.reduceAdd,Nat.reduceMul,Nat.reduceEqDiff,Nat.reduceLT,Nat.reduceLeDiff,Nat.reduceSub,ax,aD,aB,aw]
   exact⟨j-((i+j)/2+1),((i+j)/2+1,j),by omega,⟨rfl,rfl⟩,by omega,by dsimp only;omega,by dsimp only;omega,by dsimp only;omega⟩
  .have k:=u _ x c a8
   repeat' first|refine ab (λ_=> ?_) λ_=> ?_|refine aH ?_|refine af.data (cc _) rfl ?_|simp only[f,z,v2,v3,v4,v5,c,k,Int.reduceLE,wj,wy,qg,aE,reduceCtorEq,reduceIte,Nat.reduceAdd,Nat.reduceMul,Nat.reduceEqDiff,Nat.reduceLT,Nat.reduceLeDiff,Nat.reduceSub,ax,aD,aB,aw]
   exact⟨(i+j)/2-i,(i,(i+j)/2),by omega,⟨rfl,rfl⟩,by dsimp only;omega,by dsimp only;omega,by dsimp only;omega,by dsimp only;omega⟩
 .have f:decide ((i:Int)<(j:Int))=false:=by simp;omega
  have e:i=P:=by omega
  subst e;by_cases o:i<s.length
  .have g:decide ((i:Int)<(s.length:Int))=true:=by simp;omega
   obtain⟨x,c⟩:=lC (l:=s) (i:=i) o;rw[c,decide_eq_true o]at a;simp only[Bool.true_and]at a;obtain⟨q,w⟩: ∃q,q=(bY x.id d==0):=⟨_,rfl⟩
   rw[<-w]at a;subst a
   repeat' first|simp only[<-w]|refine ab (λ_=> ?_) λ_=> ?_|refine aG (ga @f (ga @g (ga @c @wj))) @cc ?_|exact aF (ga @f (ga @g (ga @c @wj))) @cc|fail
   all_goals first|rfl|(rename_i h;rw[h])
  .have g:decide ((i:Int)<(s.length:Int))=false:=by simp;omega
   rw[decide_eq_false o]at a;simp only[Bool.false_and]at a;subst a
   repeat' first|refine ab (λ_=> ?_) λ_=> ?_|refine aG (ga @f (ga @g @wj)) trivial ?_|exact aF (ga @f (ga @g @wj)) trivial|fail
   all_goals first|rfl|(rename_i h;rw[h])
theorem La(s:ar)(b:s.length<=1000000)(c:bT (b8 s))(d:Dg):aI Tryz.prog 113 [.sl 37 (s.map aX),.agg (au d)] (.tup [dI (putAt d s 0),dB (bI (b8 s) d)]):=by
 have a:=λst=>PM s b c d st;refine aL Tryz.f113 ?_ [100003]
 repeat' first|refine ab (λ_=> ?_) λ_=> ?_|refine aG (ga @b9 @wj) @a ?_|exact aF (ga @b9 @wj) @a|fail
 all_goals first|rfl|(rename_i h;rw[h])
theorem rm{d:Nat}{a:bb}(h:a.size<=65536):eX (d+1) (dC a):= .inl ⟨rfl,rfl,h⟩
theorem uw{d:Nat}{l:List Sx}(h: ∀x∈l,eX d x):eX (d+1) (de l):= .inr ⟨rfl,rfl,h⟩
theorem Ie(n:Int):(dec n).size<=21:=by
 unfold dec;split
 .rw[rN];have:=yi 19 (-n).toNat;simp;omega
 .rw[rN];have:=yi 19 n.toNat;omega
theorem yz{d:Nat}(n:Int):eX (d+1) (cU n):=by
 unfold cU;split
 .exact .inl ⟨rfl,rfl,by decide⟩
 .exact rm (by have:=Ie n;omega)
theorem Io(d:Dg):(sD d).size=32:=by unfold sD;rw[rN,aM,d.len]
theorem Jr{d:Nat}(x:Dg):eX (d+1) (gK x):=by
 unfold gK;split
 .exact rm (by decide)
 .exact rm (by rw[Io];decide)
theorem Br{d:Nat}(x:ak):eX (d+2) (bO x):=uw λy a=>by
 simp only[bF,List.not_mem_nil,or_false]at a;rcases a with rfl|rfl
 .exact Jr _
 .exact yz _
theorem S2{d:Nat}(l:List ak):eX (d+3) (fu l):=uw λy a=>by
 obtain⟨x,_,rfl⟩:=bM.1 a;exact Br x
structure Dl(c:az):Prop where
 name:c.kind=2->c.name.size<=65536
 data:c.data.size<=65536
 line:c.kind=5-> ∀s∈c.lines,ByteArray.size s<=65536
theorem S1{d:Nat}{c:az}(h:Dl c):eX (d+4) (cD c):=uw λy a=>by
 simp only[fk]at a;rcases a with((a|a)|a)|a
 .simp at a;subst a;exact yz _
 .split at a
  .simp at a;subst a;exact Br _
  .cases a
 .split at a
  .simp at a;subst a;exact yz _
  split at a
  .rename_i b;simp at a;rcases a with rfl|rfl
   .exact Br _
   .exact rm (h.name b)
  split at a
  .simp at a;subst a;exact yz _
  split at a
  .simp at a;subst a;exact rm h.data
  split at a
  .simp at a;rcases a with rfl|rfl<;>exact Br _
  .cases a
 .split at a
  .rename_i e;simp at a;subst a;refine uw λz g=> ?_;obtain⟨s,f,rfl⟩:=bM.1 g;exact rm (h.line e s f)
  split at a
  .cases a
  .simp at a;subst a;exact S2 _
theorem Ej{p:aU}(ha:p.author.size<=65536)(hm:p.message.size<=65536)(hc: ∀c∈p.changes,Dl c):eX 6 (jQ p):=uw λy e=>by
 simp only[bF,List.not_mem_nil,or_false]at e;rcases e with rfl|rfl|rfl|rfl|rfl|rfl
 .exact rm (by decide)
 .exact rm ha
 .exact rm hm
 .exact yz _
 .refine uw λz b=> ?_;obtain⟨d,_,rfl⟩:=bM.1 b;exact Jr d
 .refine uw λz b=> ?_;obtain⟨c,a,rfl⟩:=bM.1 b;exact S1 (hc c a)
theorem ru(d:Nat)(a:bb):bW d (dC a)<=1:=by
 cases d with
 |zero=>exact fG _
 |succ d=>exact bg _
theorem uF(d:Nat)(l:List Sx):bW d (de l)<=1+(l.map (bW (d-1))).sum:=by
 cases d with
 |zero=>exact fG _
 |succ d=>exact bg _
theorem yP(d:Nat)(n:Int):bW d (cU n)<=1:=by
 unfold cU;split
 .exact ru d ⟨#[]⟩
 .exact ru d _
theorem KB(d:Nat)(x:Dg):bW d (gK x)<=1:=by
 unfold gK;split<;>exact ru d _
theorem yQ(d:Nat)(x:ak):bW d (bO x)<=3:=by
 have h:=uF d [gK x.p,cU x.n];have a:=KB (d-1) x.p;have b:=yP (d-1) x.n;simp only[bX,fi,tV,List.sum_nil]at h;unfold bO;omega
theorem zH{α:Type}(f:α->Nat)(b:Nat): ∀(l:List α),(∀x∈l,f x<=b)->(l.map f).sum<=b*l.length
 |[],_=>by simp
 |x::l,h=>by
  have:=zH f b l λy a=>h y (er _ a);have:=h x (by simp);simp only[bX,tV,aY];rw[Nat.mul_add];omega
theorem Tw(d:Nat)(l:List ak):bW d (fu l)<=1+3*l.length:=by
 have h:=uF d (l.map bO);have a:=zH (bW (d-1)) 3 (l.map bO) λx b=>by
  obtain⟨y,_,rfl⟩:=bM.1 b;exact yQ _ y
 rw[aM]at a;unfold fu;omega
theorem Tv(d:Nat)(c:az):bW d (cD c)<=20+c.lines.length+3*c.over.length:=by
 unfold cD;refine ez (uF d _) ?_;rw[fF,fF,fF,List.sum_append,List.sum_append,List.sum_append];have e:(([cU c.kind]:List Sx).map (bW (d-1))).sum<=1:=by
  have:=yP (d-1) c.kind;simpa using this
 have a2:((if 2<=c.kind/\c.kind<=6 then[bO c.file]else[]).map (bW (d-1))).sum<=3:=by
  split
  .have:=yQ (d-1) c.file;simpa using this
  .simp
 have a3:((if c.kind=1 then[cU c.type]else if c.kind=2 then[bO c.parent,dC c.name]else if c.kind=3 then[cU c.mode]else if c.kind=4 then[dC c.data]else if c.kind=5\/c.kind=6 then[bO c.after,bO c.before]else[]).map (bW (d-1))).sum<=6:=by
  have f:=yP (d-1) c.type;have g:=yQ (d-1) c.parent;have i:=ru (d-1) c.name;have j:=yP (d-1) c.mode;have k:=ru (d-1) c.data;have l:=yQ (d-1) c.after;have m:=yQ (d-1) c.before
  repeat' split
  all_goals(simp only[bX,fi,tV,List.sum_nil];omega)
 have a4:((if c.kind=5 then[de (c.lines.map dC)]else if c.kind=1 then[]else[fu c.over]).map (bW (d-1))).sum<=1+c.lines.length+3*c.over.length:=by
  split
  .have h:=uF (d-1) (c.lines.map dC);have a:=zH (bW (d-1-1)) 1 (c.lines.map dC) λx b=>by
    obtain⟨y,_,rfl⟩:=bM.1 b;exact ru _ y
   rw[aM]at a;simp only[bX,fi,tV,List.sum_nil];omega
  split
  .simp
  .have h:=Tw (d-1) c.over;simp only[bX,fi,tV,List.sum_nil];omega
 omega
theorem Tx(p:aU)(b:Nat)(hb: ∀c∈p.changes,20+c.lines.length+3*c.over.length<=b):bW 6 (jQ p)<=10+p.deps.length+b*p.changes.length:=by
 unfold jQ;refine ez (uF 6 _) ?_;have g:=ru 5 (str [113,117,105,108,116,49]);have h:=ru 5 p.author;have i:=ru 5 p.message;have j:=yP 5 p.time;have k:=uF 5 (p.deps.map gK);have l:=uF 5 (p.changes.map cD);have d:=zH (bW 4) 1 (p.deps.map gK) λx a=>by
  obtain⟨y,_,rfl⟩:=bM.1 a;exact KB _ y
 have e:=zH (bW 4) b (p.changes.map cD) λx a=>by
  obtain⟨y,f,rfl⟩:=bM.1 a;exact ez (Tv _ y) (hb y f)
 rw[aM]at d e;simp only[bX,fi,tV,List.sum_nil];simp only[Nat.reduceSub]at*;omega
theorem IF: ∀(d:Nat) (x:Sx),eX d x->(iq d x).size<=100000*bW d x
 |0,_,h=>h.elim
 |d+1,.mk b a l,h=>by
  rcases h with⟨rfl,rfl,ha⟩|⟨rfl,rfl,hl⟩
  .show(dec a.size++str [58]++a).size<=100000*1;rw[mb,mb,rN];have:=Ie a.size;simp;omega
  .show(l.foldl (λs x=>s++iq d x) (str [40])++str [41]).size<=100000*(1+(l.map (bW d)).sum);rw[mb,Ee,rN,rN];have: ∀l:List Sx,(∀x∈l,eX d x)->(l.map λx=>(iq d x).size).sum<=100000*(l.map (bW d)).sum:=by
    intro l
    induction l with
    |nil=>intro _;simp
    |cons x l e=>
     intro h;have f:=IF d x (h x (by simp));have g:=e λy c=>h y (er _ c);simp only[bX,tV];rw[Nat.mul_add];omega
   have:=this l hl;simp only[aY,bc];rw[Nat.mul_add];omega
end Go.Proofs.Q
