/- Lemmas. -/
import Derived.Test.YtikhfhjohjfamaaGreatDoorPBP
import Derived.Test.YtikhfhjohjfamaaGreatDoorPBS
import Derived.Test.YtikhfhjohjfamaaGreatDoorST
set_option linter.unusedVariables false
set_option linter.unusedSimpArgs false
set_option maxRecDepth 100000
namespace Go.Proofs.Q
open Go Go.Bb Go.Proofs.Lg
open Go.Ab (D)
theorem Kq{d:Dg}: ∀{s:ar},(∀x∈s,x.id≠d->d∉bu x.pat)->mI d s=false
 |[],_=>rfl
 |x::s,h=>by
  rw[mI,if_neg,Kq λy b=>h y (er _ b)];intro a;simp only[dW,decide_eq_true_eq]at a;exact h x (by simp) a.1 ((jA _ _).1 a.2)
theorem Kr{d:Dg}: ∀{s:ar},mI d s=false-> ∀x∈s,x.id≠d->d∉bu x.pat
 |[],_,x,a=>by cases a
 |y::s,h,x,a=>by
  rw[mI]at h;split at h
  .cases h
  .rename_i b;rcases bF.1 a with rfl|a
   .intro hne hm;exact b (by simp[hne,(jA _ _).2 hm])
   .exact Kr h x a
theorem Vm{s:ar}{x:bD}(h: ∀y∈s,y.id≠x.id):(gQ s x).filter (λy=> !decide (y.id=x.id))=s:=by
 have hk: ∀l:ar,(∀y∈l,y∈s)->l.filter (λy=> !decide (y.id=x.id))=l:=λl b=>List.filter_eq_self.2 λy a=>by simp[h y (b y a)]
 unfold gQ;rw[List.filter_append,List.filter_cons_of_neg (by simp),hk _ (λy a=>Aa a),hk _ (λy a=>vv a),jV]
theorem Kj{s:ar}{x y:bD}(h:y∈gQ s x):y=x\/y∈s:=by
 unfold gQ at h;rcases fk.1 h with h|h
 .exact .inr (Aa h)
 .rcases bF.1 h with h|h
  .exact .inl h
  .exact .inr (vv h)
theorem MF(s:ar)(x:bD):x∈gQ s x:=by unfold gQ;simp
theorem yZ(s:ar)(x:bD):(gQ s x).length=s.length+1:=by
 unfold gQ;rw[aQ,aY];have:=congrArg List.length (jV (putAt x.id s 0) s);rw[aQ]at this;omega
section
variable (H:bb->Dg)
theorem u7{s:ar}{p:aU}(h:(eZ H s p).2.2=0):(bj H p).2=0/\(bj H p).1∉b8 s/\(∀d∈bu p,d∈b8 s)/\iw H s (bj H p).1 p.changes=0/\s.length<400/\eZ H s p=(gQ s ⟨(bj H p).1,p⟩,(bj H p).1,0):=by
 unfold eZ at h⊢;split at h
 .rename_i a;exact absurd h a
 rename_i a;cases hg:bh s (bj H p).1 with
 |some q=>
  rw[hg]at h;dsimp only at h;split at h<;>cases h
 |none=>
  rw[hg]at h;dsimp only at h;split at h
  .cases h
  rename_i c;split at h
  .rename_i b;exact absurd h b
  rename_i b;split at h
  .cases h
  rename_i e;refine⟨by simpa using a,oe.1 hg,(oS _ _).1 (by simpa using c),by simpa using b,by omega,?_⟩;rw[if_neg a];dsimp only;rw[if_neg c,if_neg b,if_neg e]
theorem a01{s:ar}{p:aU}(i:gl H s=0)(h:(eZ H s p).2.2=0):gT (eZ H s p).1 (eZ H s p).2.1=(s,0):=by
 obtain⟨k,c,l,m,n,d⟩:=u7 H h;have j:=mw H i;rw[d];dsimp only;have hne: ∀y∈s,y.id≠(bj H p).1:=λy a e=>c (by rw[<-e];exact eR (f:=bD.id) a);unfold gT;rw[if_neg,if_neg,Vm (x:=⟨(bj H p).1,p⟩) hne]
 .rw[Kq]
  .simp
  .intro y a b hm;rcases Kj a with rfl|a
   .exact b rfl
   .exact c (j.needs y a _ hm)
 .rw[oe];intro g;exact g (eR (f:=bD.id) (MF s ⟨(bj H p).1,p⟩))
theorem Ld{d:Dg}: ∀(a b:ar) (k:Nat),(∀y∈a,bY y.id d<0)->(∀y∈b,¬bY y.id d<0)->putAt d (a++b) k=k+a.length
 |[],[],k,_,_=>rfl
 |[],y::b,k,_,h=>by
  show putAt d (y::b) k=k;rw[putAt,if_neg (h y (by simp))]
 |x::a,b,k,h1,h2=>by
  rw[gb,putAt,if_pos (h1 x (by simp)),Ld a b (k+1) (λy c=>h1 y (er _ c)) h2,aY];omega
theorem Lf{s:ar}{x:bD}(j:bT (b8 s))(k:x∈s):gQ (s.filter λy=> !decide (y.id=x.id)) x=s:=by
 obtain⟨a,b,rfl⟩:=List.append_of_mem k;have i:bT (b8 a++x.id::b8 b):=by simpa[b8]using j
 obtain⟨n,l,m⟩:=vx.1 i;have ha: ∀y∈a,bY y.id x.id<0:=λy c=>m _ (eR (f:=bD.id) c) _ (by simp);have hb: ∀y∈b,bY x.id y.id<0:=λy c=>(gX.1 l).1 _ (eR (f:=bD.id) c);have d:a.filter (λy=> !decide (y.id=x.id))=a:=List.filter_eq_self.2 λy c=>by
  have:y.id≠x.id:=λe=>by have:=ha y c;rw[e]at this;exact oW _ this
  simp[this]
 have g:b.filter (λy=> !decide (y.id=x.id))=b:=List.filter_eq_self.2 λy c=>by
  have:y.id≠x.id:=λe=>by have:=hb y c;rw[e]at this;exact oW _ this
  simp[this]
 rw[List.filter_append,List.filter_cons_of_neg (by simp),d,g];unfold gQ;rw[Ld a b 0 ha λy c h=>oW _ (nk (hb y c) h),aw,List.take_left,List.drop_left]
theorem Ku{s:ar}{x:bD}(q:gl H s=0)(g:x∈s):((eT s x.id).2≠0->(eT s x.id).2=19)/\((eT s x.id).2=0->gl H (eT s x.id).1=0/\eZ H (eT s x.id).1 x.pat=(s,x.id,0)/\ ∀y∈(eT s x.id).1,y∈s):=by
 have i:=mw H q;have c:=uE i;obtain⟨A,z⟩:=DM H q;have hg:bh s x.id≠none:=by rw[Ne,oe];intro h;exact h (eR (f:=bD.id) g)
 rw[<-Mf i];by_cases n:mI x.id s=true
 .have e:gT s x.id=([],19):=by unfold gT;rw[if_neg hg,if_pos n]
  rw[e];exact⟨λ_=>rfl,λh=>by cases h⟩
 .have e:gT s x.id=(s.filter (λy=> !decide (y.id=x.id)),0):=by unfold gT;rw[if_neg hg,if_neg n]
  rw[e];dsimp only;have o:=Kr (by simpa using n);refine⟨λh=>absurd rfl h,λ_=>⟨Qh q (λd=> !decide (d=x.id)) λy r l d a=> ?_,?_,λy r=>(na.1 r).1⟩⟩
  .have u:y.id≠x.id:=by simpa using l
   have:d≠x.id:=λe=>o y r u (by rw[<-e];exact a);simp[this]
  .obtain⟨k,m⟩:=i.id x g;have l: ∀d∈bu x.pat,(λd=> !decide (d=x.id)) d=true:=λd a=>by
    have:d≠x.id:=λe=>c x g (by rw[<-e];exact a);simp[this]
   have b:bh (s.filter λy=> !decide (y.id=x.id)) x.id=none:=by
    rw[oe];intro h;have:=(Em (f:=λd=> !decide (d=x.id))).1 h;simp at this
   have j:gz (b8 (s.filter λy=> !decide (y.id=x.id))) (bu x.pat)=true:=(oS _ _).2 λd a=>(Em (f:=λd=> !decide (d=x.id))).2 ⟨i.needs x g d a,l d a⟩;have p:iw H (s.filter λy=> !decide (y.id=x.id)) x.id x.pat.changes=0:=by
    rw[Cm H (t:=s) k λd a=>Jm (f:=λd=> !decide (d=x.id)) (l d a)];exact z x g
   have v:(s.filter λy=> !decide (y.id=x.id)).length<400:=by
    have w:=yZ (s.filter λy=> !decide (y.id=x.id)) x;rw[Lf i.sorted g]at w;omega
   unfold eZ;rw[if_neg (by rw[k];simp),m,b];dsimp only;rw[if_neg (by rw[j];simp),if_neg (by rw[p];simp),if_neg a8,Lf i.sorted g]
end
end Go.Proofs.Q
namespace Go.Proofs.Q
open Go Go.Bb Go.RowKit Go.Proofs.Lg
open Go.Ab (D RD)
theorem qY{a b:bb}(h:dC a=dC b):a=b:=by
 unfold dC at h;injection h
theorem uz{a b:List Sx}(h:de a=de b):a=b:=by
 unfold de at h;injection h
def jT(n:Int):Prop:= -1099511627776<=n/\n<=1099511627776
theorem B5{n:Int}(h:n<0):(dec n).data.toList=45::gB 19 (-n).toNat:=by
 unfold dec;rw[if_pos h,tJ]
theorem B6{n:Int}(h: ¬n<0):(dec n).data.toList=gB 19 n.toNat:=by
 unfold dec;rw[if_neg h,tJ]
theorem QO{a b:Int}(ha:jT a)(hb:jT b)(h:dec a=dec b):a=b:=by
 have c:=congrArg (λs:bb=>s.data.toList) h;obtain⟨j,a2⟩:=ha;obtain⟨k,l⟩:=hb;have i: ∀m n:Nat,45::gB 19 m≠gB 19 n:=by
  intro m n e;have:=w6 19 n 45 (by rw[<-e];simp);simp at this
 by_cases d:a<0<;>by_cases f:b<0
 .rw[B5 d,B5 f]at c;injection c with _ h2
  have g:=congrArg xk h2;rw[vh 19 _ a8,vh 19 _ a8]at g;omega
 .rw[B5 d,B6 f]at c;exact absurd c (i _ _)
 .rw[B6 d,B5 f]at c;exact absurd c.symm (i _ _)
 .rw[B6 d,B6 f]at c;have g:=congrArg xk c;rw[vh 19 _ a8,vh 19 _ a8]at g;omega
theorem yE{a b:Int}(ha:jT a)(hb:jT b)(h:cU a=cU b):a=b:=by
 have c:=ha.1;have d:=ha.2;have e:=hb.1;have f:=hb.2;unfold cU at h;rw[if_neg a8,if_neg a8]at h;exact QO ha hb (qY h)
theorem wE{α β:Type}{f:α->β}: ∀{l m:List α},(∀x∈l,∀y∈m,f x=f y->x=y)->l.map f=m.map f->l=m
 |[],[],_,_=>rfl
 |[],y::m,_,h=>by simp at h
 |x::l,[],_,h=>by simp at h
 |x::l,y::m,hf,h=>by
  rw[bX,bX]at h;injection h with h1 h2
  rw[hf x (by simp) y (by simp) h1,wE (λa ha b hb=>hf a (er _ ha) b (er _ hb)) h2]
theorem QW{x y:Dg}(h:sD x=sD y):x=y:=by
 have c:=congrArg (λs:bb=>s.data.toList) h;dsimp only[sD]at c;rw[tJ,tJ]at c;obtain⟨g,n,f⟩:=x;obtain⟨j,o,i⟩:=y;have:g=j:=wE (λa ha b hb e=>by
  obtain⟨a0,k⟩:=f a ha;obtain⟨l,m⟩:=i b hb;have d:=congrArg UInt8.toNat e;rw[UInt8.toNat_ofNat',UInt8.toNat_ofNat']at d;omega) c
 subst this;rfl
theorem Is{x y:Dg}(h:gK x=gK y):x=y:=by
 have c: ∀d:Dg,sD d≠⟨#[]⟩:=λd e=>by
  have:=Io d;rw[e]at this;cases this
 unfold gK at h;by_cases a:isZero x=true<;>by_cases b:isZero y=true
 .have f:x= .zero:=by simpa[isZero]using a
  have g:y= .zero:=by simpa[isZero]using b
  rw[f,g]
 .rw[if_pos a,if_neg b]at h;exact absurd (qY h).symm (c _)
 .rw[if_neg a,if_pos b]at h;exact absurd (qY h) (c _)
 .rw[if_neg a,if_neg b]at h;exact QW (qY h)
theorem pn{x y:ak}(d:jT x.n)(e:jT y.n)(h:bO x=bO y):x=y:=by
 have c:=uz h;injection c with h2 h3
 injection h3 with h4 _
 have a:=Is h2;have b:=yE d e h4;obtain⟨g,f⟩:=x;obtain⟨j,i⟩:=y;dsimp only at a b;rw[a,b]
structure Aj(c:az):Prop where
 kind:1<=c.kind/\c.kind<=7
 tidy:lX c=true
 type:c.kind=1->jT c.type
 mode:c.kind=3->jT c.mode
 refs: ∀y∈iV c,jT y.n
theorem yV{l m:List ak}(a: ∀y∈l,jT y.n)(hm: ∀y∈m,jT y.n)(h:fu l=fu m):l=m:=
 wE (λx b y c e=>pn (a x b) (hm y c) e) (uz h)
theorem SV{l m:List bb}(h:de (l.map dC)=de (m.map dC)):l=m:=
 wE (λx _ y _ e=>qY e) (uz h)
theorem Qi{c e:az}(hc:Aj c)(H:Aj e)(h:cD c=cD e):c=e:=by
 have a:=uz h;obtain⟨m,L,R,Q,O,N,K,ca,cb,M,P⟩:=c;obtain⟨E,X,et,ep,Z,em,W,U,V,Y,eo⟩:=e;obtain⟨⟨I,J⟩,b,p,n,o⟩:=hc;obtain⟨⟨S,T⟩,d,t,r,s⟩:=H;dsimp only at*;simp only[iV,List.forall_mem_cons]at o s;obtain⟨u,F,A,B,v⟩:=o;obtain⟨w,G,C,D,x⟩:=s;have hk:m=E:=by
  simp only[xH,gb,List.cons.injEq]at a;exact yE ⟨by omega,by omega⟩ ⟨by omega,by omega⟩ a.1
 subst hk;simp only[lX,dW,jF,decide_eq_true_eq]at b d;obtain k|k|k|k|k|k|k:m=1\/m=2\/m=3\/m=4\/m=5\/m=6\/m=7:=by omega
 all_goals
  subst k;simp[xD]at a b d p t n r;simp only[az.mk.injEq,true_and]
 .have q:=yE p t a;simp[q,b,d]
 .obtain⟨a,y,g,i⟩:=a;have j:=pn u w a;have z:=pn F G y;have l:=qY g;have f:=yV v x i;simp[j,z,l,f,b,d]
 .obtain⟨a,g,i⟩:=a;have j:=pn u w a;have l:=yE n r g;have f:=yV v x i;simp[j,l,f,b,d]
 .obtain⟨a,g,i⟩:=a;have j:=pn u w a;have l:=qY g;have f:=yV v x i;simp[j,l,f,b,d]
 .obtain⟨a,y,g,i⟩:=a;have j:=pn u w a;have z:=pn A C y;have l:=pn B D g;have f:=SV i;simp[j,z,l,f,b,d]
 .obtain⟨a,y,g,i⟩:=a;have j:=pn u w a;have z:=pn A C y;have l:=pn B D g;have f:=yV v x i;simp[j,z,l,f,b,d]
 .have f:=yV v x a;simp[f,b,d]
theorem H5{x:ak}{m:Nat}(h:allowed x m=true)(hm:m<=2000000):jT x.n:=by
 unfold allowed at h;by_cases a:isZero x.p=true
 .rw[if_pos a,dW,decide_eq_true_eq,decide_eq_true_eq]at h;exact⟨by omega,by omega⟩
 .rw[if_neg a,dW,decide_eq_true_eq,decide_eq_true_eq]at h;exact⟨by omega,by omega⟩
theorem BR{x:ak}{own:List ay}{f:Bool}(h:kS x own f=0)(hm:own.length<=2000000):jT x.n:=by
 refine H5 (m:=own.length) ?_ hm;unfold kS at h;by_cases ha:allowed x own.length=true
 .exact ha
 .rw[if_pos (by simpa using ha)]at h;cases h
theorem D2{x:ak}(h:x= .zero):jT x.n:=by subst h;exact⟨by decide,by decide⟩
theorem Rs{c:az}(h:fm c=0)(hk:c.kind=1):jT c.type:=by
 unfold fm at h;split at h
 .exact absurd h (by decide)
 split at h
 .exact absurd h (by decide)
 split at h
 .exact absurd h (by decide)
 rename_i a;exact⟨by omega,by omega⟩
theorem Rr{c:az}(h:fm c=0)(hk:c.kind=3):jT c.mode:=by
 unfold fm at h;split at h
 .exact absurd h (by decide)
 split at h
 .exact absurd h (by decide)
 split at h
 .exact absurd h (by decide)
 split at h
 .exact absurd h (by decide)
 split at h
 .exact absurd h (by decide)
 rename_i a;exact⟨by omega,by omega⟩
theorem Zj{c:az}{own:List ay}(i:fm c=0)(e:iG c own=0)(hm:own.length<=2000000):Aj c:=by
 obtain⟨⟨k,l⟩,g,_⟩:=nY i;rw[<-xf c k l]at g;refine⟨⟨k,l⟩,g,Rs i,Rr i,?_⟩;simp only[lX,dW,jF,decide_eq_true_eq]at g;obtain⟨-,s,t,-,-,r,-,u⟩:=g;obtain⟨j,e⟩:=ot e;obtain⟨rB,e⟩:=ot e;obtain⟨d,e⟩:=ot e;obtain⟨o,_⟩:=ot e;have b: ∀x,x=c.after\/x=c.before->jT x.n:=by
  intro x m;by_cases hk:c.kind=5\/c.kind=6
  .unfold tC nG at d;rw[if_pos (by simpa using hk)]at d;simp only[rf]at d;by_cases f:wb c own c.after=0
   .rw[if_neg (by simpa using f)]at d;by_cases h:wb c own c.before=0
    .rcases m with rfl|rfl
     .exact BR f hm
     .exact BR h hm
    .rw[if_pos h]at d;exact absurd d h
   .rw[if_pos f]at d;exact absurd d f
  .obtain⟨p,q⟩:=r.resolve_left hk;rcases m with rfl|rfl
   .exact D2 p
   .exact D2 q
 intro y a;unfold iV at a;simp only[bF]at a;rcases a with rfl|rfl|a|a|a
 .rcases s with hk|hz
  .unfold rI at j;rw[if_pos hk]at j;exact BR j hm
  .exact D2 hz
 .rcases t with hk|hz
  .by_cases hp:c.parent=⟨.zero,-1⟩
   .rw[hp];exact⟨by decide,by decide⟩
   .unfold uM at rB;rw[if_pos ⟨hk,hp⟩]at rB;exact BR rB hm
  .exact D2 hz.1
 .exact b y (.inl a)
 .exact b y (.inr a)
 .exact H5 (BW o y a) hm
theorem DK: ∀{l:List az} {own:List ay},(eH l own).2=0->own.length+4001*l.length<=2000000-> ∀c∈l,Aj c
 |[],_,_,_,c,hc=>by cases hc
 |x::l,own,h,hm,c,hc=>by
  rw[eH]at h;rw[aY]at hm;by_cases a:fm x=0
  .rw[if_neg (by simpa using a)]at h;by_cases b:iG x own=0
   .rw[if_neg (by simpa using b)]at h;rcases bF.1 hc with rfl|hc
    .exact Zj a b a8
    .have d:=BM (c:=x) (n:=own.length) (we a);exact DK h (by rw[aQ];omega) c hc
   .rw[if_pos b]at h;exact absurd h b
  .rw[if_pos a]at h;exact absurd h a
theorem R3{p q:aU}(hp:(bj aq p).2=0)(i:(bj aq q).2=0)(h:(cQ p).1=(cQ q).1):p=q:=by
 obtain⟨_,b⟩:=sG hp;obtain⟨_,d⟩:=sG i;obtain⟨_,O,G,E,F,P,N,D⟩:=jx b;obtain⟨_,R,K,I,J,S,Q,H⟩:=jx d;have t:eX 6 (jQ p):=Ej (by have:=BA F;omega) a8 λc hc=>E9 (G c hc);have u:eX 6 (jQ q):=Ej (by have:=BA J;omega) a8 λc hc=>E9 (K c hc)
 have enc: ∀r:aU,(bj aq r).2=0->(dN r).2=0->(cQ r).1=jM (jQ r):=by
  intro r f hc;have h0:(cQ r).2=0:=by
   unfold bj at f;by_cases a:(cQ r).2≠0
   .rw[if_pos a]at f;exact absurd f a
   .simpa using a
  unfold cQ at h0⊢;rw[if_neg (by simpa using hc)]at h0⊢;unfold oX at h0⊢;by_cases j:65536<(jM (jQ r)).size
  .rw[if_pos j]at h0;cases h0
  .rw[if_neg j]
 rw[enc p hp b,enc q i d]at h;have g:=uz (R2 t u h);simp only[List.cons.injEq,true_and,and_true]at g;obtain⟨a,v,w,z,A⟩:=g;have L:=DK (l:=p.changes) (own:=[]) (by rw[<-E];exact b) (by simp;omega);have M:=DK (l:=q.changes) (own:=[]) (by rw[<-I];exact d) (by simp;omega);have k:=qY a;have m:=qY v
 have n:=yE ⟨by omega,D⟩ ⟨by omega,H⟩ w;have o:=wE (λx _ y _ e=>Is e) (uz z);have s:=wE (λx B y C e=>Qi (L x B) (M y C) e) (uz A);obtain⟨_,_,_,_,_⟩:=p;obtain⟨_,_,_,_,_⟩:=q;dsimp only at k m n o s;rw[k,m,n,o,s]
theorem Pd{s:ar}(d:dm aq s)(p:aU):si s p=eZ aq s p:=by
 by_cases a:(bj aq p).2=0
 .by_cases h:(bj aq p).1∈b8 s
  .obtain⟨x,f,b⟩:=bM.1 h;have hg:bh s (bj aq p).1=some x.pat:=by
    rw[<-b];exact iT d.sorted.nodup x f
   have hb:((cQ x.pat).1.toList==(cQ p).1.toList)=decide (p=x.pat):=by
    rw[l6,beq_iff_eq,decide_eq_true_eq,Av,Av];constructor
    .intro e;exact(R3 (d.id x f).1 a (N6 e)).symm
    .intro e;rw[e]
   unfold si eZ;rw[if_neg (c:=(bj aq p).2≠0) (by simpa using a),if_neg (c:=(bj aq p).2≠0) (by simpa using a),if_pos ((jA _ _).2 h),hg,eF,hb];simp only[decide_eq_true_eq]
  .exact H0 λ_=>h
 .exact H0 λh=>absurd h a
theorem CZ{n:Int}(h0:0<=n)(a:n<9223372036854775808):IntKind.i64.wrap n=n:=by
 obtain⟨m,rfl⟩: ∃m:Nat,n=(m:Int):=⟨n.toNat,by omega⟩
 simp only[IntKind.wrap,IntKind.bits,IntKind.signed];have:((m:Int) % 2^64)=m:=by omega
 simp only[this];simp;omega
theorem QI{c:az}(b:fm c=0)(k:Nat):sC c=((fK c k).length:Int):=by
 have f:=we b;obtain⟨⟨d,e⟩,_,_⟩:=nY b;unfold sC fK;by_cases a:c.kind=5
 .simp only[a,Int.reduceEq,if_true,if_false,aQ,List.length_mapIdx,aM,dX];rw[show W (2*(c.lines.length:Int))=2*(c.lines.length:Int)from CZ a8 a8];rw[show W (2*(c.lines.length:Int)+1)=2*(c.lines.length:Int)+1 from CZ a8 a8];omega
 .rw[if_neg a];obtain h|h|h|h|h|h:c.kind=1\/c.kind=2\/c.kind=3\/c.kind=4\/c.kind=6\/c.kind=7:=by omega
  all_goals simp[h]
theorem I7: ∀{l:List az} {own:List ay},(eH l own).2=0->own.length+4001*l.length<=2000000->l.foldl (λn c=>W (n+sC c)) (own.length:Int)=((eH l own).1.length:Int)
 |[],own,_,_=>rfl
 |c::l,own,h,hm=>by
  rw[aY]at hm;rw[eH]at h⊢;by_cases a:fm c=0
  .rw[if_neg (by simpa using a)]at h⊢;by_cases b:iG c own=0
   .rw[if_neg (by simpa using b)]at h⊢;have e:=BM (c:=c) (n:=own.length) (we a);have d:(own++fK c own.length).length=own.length+(fK c own.length).length:=aQ;rw[ig,QI a own.length]
    rw[show W ((own.length:Int)+((fK c own.length).length:Int))=((own++fK c own.length).length:Int)from by rw[d];exact(CZ a8 a8).trans a8];exact I7 h (by rw[d];omega)
   .rw[if_pos b]at h;exact absurd h b
  .rw[if_pos a]at h;exact absurd h a
theorem QJ{p:aU}(h:(bj aq p).2=0):yg p=((dp p).length:Int):=by
 obtain⟨b,hc⟩:=sG h;obtain⟨_,c,_,a,_⟩:=jx hc;have h0:gj p=0:=yA aq h;unfold yg;rw[if_neg (by simpa using h0),b,a];rw[a]at hc;exact I7 (own:=[]) hc (by simp;omega)
def MS(c:az):Bool:=decide (c.name.size<=100)&&(decide (c.data.size<=100)&&(decide (c.lines.length<=100)&&(decide (c.over.length<=40)&&c.lines.all λs=>decide (s.size<=100))))
def zF(p:aU):Bool:=decide (p.author.size<=100)&&(decide (p.message.size<=100)&&(decide (p.deps.length<=20)&&(decide (p.changes.length<=20)&&(p.changes.all MS&& !lH p))))
theorem Gb{p:aU}(h:zF p=true):(bS p/\db p)/\oD p.changes:=by
 have hm:(1000:Nat)<=maxLen:=by unfold maxLen;omega
 simp only[zF,dW,decide_eq_true_eq,js,rY]at h;obtain⟨g,i,j,k,d,b⟩:=h;have hc: ∀c∈p.changes,A6 c:=λc hc=>by
  have:=d c hc;simp only[MS,dW,decide_eq_true_eq,js]at this;obtain⟨l,m,n,o,f⟩:=this;exact⟨by omega,by omega,by omega,λs e=>by have:=f s e;omega,by omega⟩
 have a:mg p:=⟨by omega,by omega,by omega,by omega,hc⟩
 exact⟨⟨Di a b,GP b⟩,D8 a⟩
set_option maxRecDepth 100000 in
theorem S8:bj aq gm=(dP,0):=by kernel_rfl
set_option maxRecDepth 100000 in
theorem id2:bj aq (kN dP)=(dQ,0):=by kernel_rfl
set_option maxRecDepth 100000 in
theorem Sc:bj aq mB=(dR,0):=by kernel_rfl
set_option maxRecDepth 100000 in
theorem Z1:((dp gm).all λx=>tG (x.over.map (whole · dP)))=true:=by kernel_rfl
set_option maxRecDepth 100000 in
theorem MT:((dp (kN dP)).all λx=>tG (x.over.map (whole · dQ)))=true:=by kernel_rfl
set_option maxRecDepth 100000 in
theorem Z2:((dp mB).all λx=>tG (x.over.map (whole · dR)))=true:=by kernel_rfl
set_option maxRecDepth 100000 in
theorem Re:qv jg dP ⟨Bi,⟨#[]⟩,3⟩=(mB,0):=by kernel_rfl
set_option maxRecDepth 100000 in
theorem Ra:ko gL gL.length []=[dP,dQ,dR]:=by kernel_rfl
set_option maxRecDepth 100000 in
theorem IN:((dp mB).map (yw dR)).reverse++(((dp (kN dP)).map (yw dQ)).reverse++((dp gm).map (yw dP)).reverse)=lI gL:=by
 have a:bh gL dP=some gm:=by rfl
 have b:bh gL dQ=some (kN dP):=by rfl
 have gR:bh gL dR=some mB:=by rfl
 unfold lI;rw[Ra];simp only[vy,List.reverse_nil,bt,gb,jt,vq,bq];unfold lV;rw[a,b,gR];simp only[eF];rw[Ar S8 Z1,Ar id2 MT,Ar Sc Z2]
end Go.Proofs.Q
