/- Lemmas. -/
import Derived.Test.YtikhfhjohjfamaaGreatDoorPBT
set_option linter.unusedVariables false
set_option linter.unusedSimpArgs false
set_option maxRecDepth 100000
namespace Go.Proofs.Q
open Go Go.Bb Go.RowKit Go.Proofs.Lg
open Go.Ab (D RD)
theorem Lc(d:Dg): ∀(l:ar) (k:Nat),∃j,putAt d l k=k+j/\j<=l.length/\(∀x∈l.take j,bY x.id d<0)/\(∀y,l[j]?=some y-> ¬bY y.id d<0)
 |[],k=>⟨0,rfl,bg _,by simp,by simp⟩
 |y::l,k=>by
  unfold putAt;split
  .rename_i h;obtain⟨j,f,g,c,e⟩:=Lc d l (k+1);refine⟨j+1,by omega,by simp;omega,?_,λz b=>e z (by simpa using b)⟩;intro x a;rw[jW]at a;rcases bF.1 a with rfl|a
   .exact h
   .exact c x a
  .rename_i h;exact⟨0,rfl,fG _,by simp,λz b=>by simp at b;subst b;exact h⟩
theorem Vo{s:ar}{x:bD}(o:bT (b8 s))(p:x.id∉b8 s):bT (b8 (gQ s x)):=by
 obtain⟨j,h,u,l,m⟩:=Lc x.id s 0;rw[aw]at h;unfold gQ;rw[h];have f:(s.take j++s.drop j).Pairwise λa b=>bY a.id b.id<0:=by rw[jV];exact List.pairwise_map.1 o
 obtain⟨q,g,t⟩:=vx.1 f;have n: ∀y∈s.drop j,bY x.id y.id<0:=by
  intro y c;cases d:s.drop j with
  |nil=>rw[d]at c;cases c
  |cons z r=>
   have k:s[j]?=some z:=by
    have:(s.drop j)[0]?=some z:=by rw[d];rfl
    rw[gf]at this;simpa using this
   have i:=B8 (m z k) (λe=>p (by rw[<-e];exact eR (bR k)));rw[d]at c g;rcases bF.1 c with rfl|c
   .exact i
   .exact nk i ((gX.1 g).1 y c)
 unfold bT b8;refine List.pairwise_map.2 (vx.2 ⟨q,gX.2 ⟨n,g⟩,λa ha b hb=> ?_⟩);rcases bF.1 hb with rfl|hb
 .exact l a ha
 .exact t a ha b hb
theorem Vn{s:ar}{x y:bD}:y∈gQ s x↔y=x\/y∈s:=by
 refine⟨Kj,?_⟩;rintro(rfl|h)
 .exact MF _ _
 .unfold gQ;have:y∈s.take (putAt x.id s 0)++s.drop (putAt x.id s 0):=by rw[jV];exact h
  rcases fk.1 this with h|h
  .exact fk.2 (.inl h)
  .exact fk.2 (.inr (er _ h))
theorem M6(r:Dg->Nat): ∀l:List Dg,∃B,∀d∈l,r d<B
 |[]=>⟨0,λ_ h=>by cases h⟩
 |d::l=>by
  obtain⟨B,b⟩:=M6 r l;refine⟨B+r d+1,λe a=> ?_⟩;rcases bF.1 a with rfl|a
  .omega
  .have:=b e a;omega
structure jG(s:ar)(p:aU)(t:ar)(d:Dg):Prop where
 v:dm aq s
 w:dm aq t
 id:(bj aq p).1=d
 new:d∉b8 s
 mem: ∀y,y∈t↔y=⟨d,p⟩\/y∈s
theorem Bu{s:ar}{p:aU}(c:dm aq s)(h:(eZ aq s p).2.2=0):jG s p (eZ aq s p).1 (eZ aq s p).2.1:=by
 obtain⟨q,g,n,A,C,t⟩:=u7 aq h;rw[t];dsimp only;have hm: ∀y,y∈gQ s ⟨(bj aq p).1,p⟩↔y=⟨(bj aq p).1,p⟩\/y∈s:=λy=>Vn;have b: ∀e,e∈b8 s->e∈b8 (gQ s ⟨(bj aq p).1,p⟩):=λe j=>by
  obtain⟨x,a,rfl⟩:=bM.1 j;exact eR ((hm x).2 (.inr a))
 have k:=Vo (x:=⟨(bj aq p).1,p⟩) c.sorted g;have o: ∀x∈gQ s ⟨(bj aq p).1,p⟩,∀d∈bu x.pat,d∈b8 (gQ s ⟨(bj aq p).1,p⟩):=λx a d l=>by
  rcases(hm x).1 a with rfl|a
  .exact b _ (n d l)
  .exact b _ (c.needs x a d l)
 have m:A8 (gQ s ⟨(bj aq p).1,p⟩):=by
  obtain⟨r,z⟩:=DZ c;obtain⟨B,w⟩:=M6 r (b8 s);refine⟨λe=>if e=(bj aq p).1 then B else r e,λx a e j=> ?_⟩;rcases(hm x).1 a with rfl|a
  .have:=n e j;dsimp only;rw[if_pos rfl,if_neg λf=>g (by rw[<-f];exact this)];exact w e this
  .have u:=c.needs x a e j;have v:x.id∈b8 s:=eR a;dsimp only;rw[if_neg λf=>g (by rw[<-f];exact u),if_neg λf=>g (by rw[<-f];exact v)];exact z x a e j
 refine⟨c,⟨λx a=> ?_,k,o,EX m o k.nodup _ [] (λi d l=>by simp at l) (by simp)⟩,rfl,g,hm⟩;rcases(hm x).1 a with rfl|a
 .exact⟨q,rfl⟩
 .exact c.id x a
def eJ(s:ar)(x:ay):Prop:= ∃y∈s,x∈(ew aq y.pat).1
def H3(s:ar):List ay:=gD aq s (dD s)
theorem EK{s:ar}(h:dm aq s)(x:ay):x∈H3 s↔eJ s x:=by
 unfold H3 eJ;rw[pg,vu];constructor
 .rintro⟨d,c,b⟩;obtain⟨y,a,rfl⟩:=bM.1 (((qh h).2 d).1 c);rw[iT h.sorted.nodup y a,eF]at b;exact⟨y,a,b⟩
 .rintro⟨y,a,b⟩;refine⟨y.id,((qh h).2 _).2 (eR a),?_⟩;rw[iT h.sorted.nodup y a,eF];exact b
theorem Kf{s:ar}(h:dm aq s)(x:ay):x∈jL aq s↔eJ s x:=by
 unfold jL eJ;rw[pg,vu];constructor
 .rintro⟨d,c,b⟩;obtain⟨y,a,rfl⟩:=bM.1 c;rw[iT h.sorted.nodup y a,eF]at b;exact⟨y,a,b⟩
 .rintro⟨y,a,b⟩;refine⟨y.id,eR a,?_⟩;rw[iT h.sorted.nodup y a,eF];exact b
theorem KW{s:ar}(h:dm aq s){y:bD}(a:y∈s){x:ay}(c:x∈(ew aq y.pat).1):x.id.p=y.id:=by
 obtain⟨j,b⟩:=fE c;have:=pL h (eR (f:=bD.id) a) j x (by rw[iT h.sorted.nodup y a,eF];exact b);rw[this]
theorem JC{s:ar}(h:dm aq s){x:ay}(a:eJ s x):x.id.p∈b8 s:=by
 obtain⟨y,b,a⟩:=a;rw[KW h b a];exact eR b
theorem En{s:ar}(h:dm aq s){x:ay}(b:eJ s x){o:ak}(e:o∈x.over):o.p∈b8 s:=by
 obtain⟨y,c,b⟩:=b;obtain⟨j,d⟩:=fE b;rcases KL d o e with⟨a,_⟩|a
 .rw[a,(h.id y c).2];exact eR c
 .exact h.needs y c _ a
theorem jG.at{s t:ar}{p:aU}{d:Dg}(g:jG s p t d)(x:ay):eJ t x↔eJ s x\/x∈(ew aq p).1:=by
 unfold eJ;constructor
 .rintro⟨y,b,a⟩;rcases(g.mem y).1 b with rfl|b
  .exact .inr a
  .exact .inl ⟨y,b,a⟩
 .rintro(⟨y,b,a⟩|a)
  .exact⟨y,(g.mem y).2 (.inr b),a⟩
  .exact⟨_,(g.mem _).2 (.inl rfl),a⟩
theorem jG.own{s t:ar}{p:aU}{d:Dg}(g:jG s p t d){x:ay}(a:x∈(ew aq p).1):x.id.p=d:=by
 have:=KW g.w ((g.mem ⟨d,p⟩).2 (.inl rfl)) a;exact this
theorem jG.ids{s t:ar}{p:aU}{d:Dg}(g:jG s p t d)(e:Dg):e∈b8 t↔e=d\/e∈b8 s:=by
 constructor
 .intro h;obtain⟨y,a,rfl⟩:=bM.1 h;rcases(g.mem y).1 a with rfl|a
  .exact .inl rfl
  .exact .inr (eR a)
 .rintro(rfl|h)
  .exact eR (f:=bD.id) ((g.mem ⟨e,p⟩).2 (.inl rfl))
  .obtain⟨y,a,rfl⟩:=bM.1 h;exact eR ((g.mem y).2 (.inr a))
theorem rb{s:ar}(h:dm aq s)(x:ay):x∈fJ aq s↔eJ s x/\GI (· ∈fJ aq s) x:=by
 unfold fJ;have:=B9 (gD aq s (dD s)).reverse [] (Gl h) x;rw[this,vw];rw[show x∈gD aq s (dD s)↔eJ s x from EK h x];simp
theorem xS{s:ar}(h:dm aq s)(i:ak):lB aq s i=true↔(∃x,eJ s x/\x.id=i)/\ ∀y∈fJ aq s,i∉y.over:=by
 have hk: ∀i,(iU i (fJ aq s) []).length=0↔ ∀y∈fJ aq s,i∉y.over:=by
  intro i;obtain⟨_,a⟩:=BD i (fJ aq s) [] .nil;rw[xD,List.eq_nil_iff_forall_not_mem];constructor
  .intro e y c hi;refine e y.id ((a _).2 (.inl (bM.2 ⟨y,na.2 ⟨c,(nx _ _).2 hi⟩,rfl⟩)))
  .intro e z d;rcases(a z).1 d with d|d
   .obtain⟨y,c,_⟩:=bM.1 d;obtain⟨c,hi⟩:=na.1 c;exact e y c ((nx _ _).1 hi)
   .cases d
 unfold lB sM rn;rw[nx,bM];constructor
 .rintro⟨x,b,rfl⟩;obtain⟨b,a⟩:=na.1 b;exact⟨⟨x,(Kf h x).1 b,rfl⟩,(hk _).1 (by simpa using a)⟩
 .rintro⟨⟨x,b,rfl⟩,a⟩;exact⟨x,na.2 ⟨(Kf h x).2 b,by simpa using(hk _).2 a⟩,rfl⟩
theorem R0{s u:ar}(f:dm aq s)(j:dm aq u)(c: ∀x,eJ s x->eJ u x){C:ay->Prop}(g: ∀x,eJ s x->C x-> ∀y,eJ s y->x.id∈y.over->C y)(i: ∀x,eJ s x->C x-> ∀y∈fJ aq u,¬eJ s y->y.kind=7->x.id∉y.over): ∀x,eJ s x->C x->(x∈fJ aq u↔x∈fJ aq s):=by
 intro x a hc;have hm: ∀x,x∈(gD aq s (dD s)).reverse↔eJ s x:=λx=>by rw[vw];exact EK f x
 refine IA (L:=(gD aq s (dD s)).reverse) (Gl f) (P:=(· ∈fJ aq u)) (C:=C) (λx a hc y b=>g x ((hm x).1 a) hc y ((hm y).1 b)) (λx a hc=> ?_) x ((hm x).2 a) hc;have a:=(hm x).1 a;rw[rb j x];constructor
 .rintro⟨_,h⟩ y _ b;exact h y b
 .intro h;refine⟨c x a,λy b e=> ?_⟩;by_cases d:eJ s y
  .exact h y ((hm y).2 d) b e
  .exact i x a hc y b d e
theorem Ph{s u:ar}(f:dm aq s)(i:dm aq u)(b: ∀x,eJ s x->eJ u x){C:ay->Prop}(e: ∀x,eJ s x->C x-> ∀y,eJ s y->x.id∈y.over->C y)(j: ∀x,eJ s x->C x-> ∀y∈fJ aq u,¬eJ s y->y.kind=7->x.id∉y.over){x:ay}(d:eJ s x)(hc:C x)(hk: ∀y∈fJ aq u,¬eJ s y->x.id∉y.over):lB aq s x.id=lB aq u x.id:=by
 have g:=R0 f i b e j;rw[l6,xS f,xS i];constructor
 .rintro⟨_,h⟩;refine⟨⟨x,b x d,rfl⟩,λy c hm=> ?_⟩;by_cases a:eJ s y
  .exact h y ((g y a (e x d hc y a hm)).1 c) hm
  .exact hk y c a hm
 .rintro⟨_,h⟩;refine⟨⟨x,d,rfl⟩,λy c hm=> ?_⟩;have a:=((rb f y).1 c).1;exact h y ((g y a (e x d hc y a hm)).2 c) hm
theorem a0W{s t:ar}{p:aU}{d:Dg}(g:jG s p t d){R:ak->Prop}(h0: ∀a∈(ew aq p).1,∀o∈a.over,R o)(i: ∀y,eJ s y->R y.id-> ∀o∈y.over,R o){x:ay}(e:eJ s x)(h: ¬R x.id):lB aq s x.id=lB aq t x.id:=by
 have hp: ∀y∈fJ aq t,¬eJ s y->y∈(ew aq p).1:=λy b c=>((g.at y).1 ((rb g.w y).1 b).1).resolve_left c;refine Ph g.v g.w (λx e=>(g.at x).2 (.inl e)) (C:=λx=> ¬R x.id) (λx e hc y b hm f=>hc (i y b f _ hm)) (λx e hc y b c _ hm=>hc (h0 y (hp y b c) _ hm)) e h λy b c hm=>h (h0 y (hp y b c) _ hm)
theorem a0X{s t:ar}{p:aU}{d:Dg}(g:jG s p t d){x:ay}(a:x∈(ew aq p).1)(b: ∀y∈(ew aq p).1,x.id∉y.over):lB aq t x.id=true:=by
 rw[xS g.w];refine⟨⟨x,(g.at x).2 (.inr a),rfl⟩,λy c hm=> ?_⟩;rcases(g.at y).1 ((rb g.w y).1 c).1 with h|h
 .have:=En g.v h hm;rw[g.own a]at this;exact g.new this
 .exact b y h hm
theorem fzc2(z:List AV){l:List AV}(e:z=l:=by conv=>lhs;cbv): ∀a x,CI.clr a l x=.clr a z x:=by subst e;intros;rfl
theorem Sj(g:FuncId)(a cs:List AV)(s:List aa):bs Tryz.prog 139 [.emp 37,.clo g a cs] s λd b=>d= .d (dI (-1))/\b=s:=by
 refine cz Tryz.f139 ?_ [] [[8,0,1,7]];refine aC @wj trivial ?_;refine aZ.tr (λ_:Unit=>[]) (λ_=>s) (λ_ _=>True) 0 () aA aA rfl trivial ?_;rintro m _ _;exact bL @wj trivial
 all_goals first|rfl|exact⟨rfl,rfl⟩|trace_state
theorem Sk{s:List aa}{i:Nat}(l:ar)(j:s[i]?=some (.vec 71 37 (dZ l)))(v:l.length<=1000000)(g:FuncId)(p cs:List AV)(a:bD->Bool)(f: ∀(x:bD) (K:AV->List aa->Nat->Prop),x∈l->(∀o,K (.d (dB (a x))) s o)->af Tryz.prog (.clo g p cs) [.d (.agg (aX x))] s K):
  bs Tryz.prog 139 [.vec i l.length 37,.clo g p cs] s λd u=>d= .d (dI (eI a l 0))/\u=s:=by
 have c:=pR l;refine cz Tryz.f139 ?_ [] [[8,0,1,7]];refine aC @wj trivial ?_;refine aZ.overI l (λk (b:Unit)=>[(8,iN k)]) (λ_ _=>s) (λr _=>eI a r (l.length-r.length)) (eI a l 0) (λ_ _=>True) () a8 aA aA rfl (by rw[jc]) trivial (λk _ x hg hk h m e _=> ?_) (λ_ h e _=> ?_)
 .have q:l.length-(x::l.drop (k+1)).length=k:=by rw[aY,ax];omega
  have t:l.length-(l.length-(k+1))=k+1:=by omega
  have a0:=HD hg;have n:k*37+37<=l.length*37:=by omega
  rw[q,eI]at e;have hc:=f x;by_cases hp:a x=true
  .rw[if_pos hp]at e;rw[hp]at hc
   repeat' first|refine ab (λ_=> ?_) λ_=> ?_|(refine hc _ (bR hg) (λo=> ?_))|refine aG (ga @h (ga @m (ga @j (ga @hk (ga @c (ga @a0 (ga @n @wj))))))) trivial ?_|exact aF (ga @h (ga @m (ga @j (ga @hk (ga @c (ga @a0 (ga @n @wj))))))) trivial|fail
   all_goals rw[e]
  .rw[if_neg hp]at e;rw[show a x=false by simpa using hp]at hc
   repeat' first|refine ab (λ_=> ?_) λ_=> ?_|(refine hc _ (bR hg) (λo=> ?_))|refine aG (ga @h (ga @m (ga @j (ga @hk (ga @c (ga @a0 (ga @n @wj))))))) trivial ?_|exact aF (ga @h (ga @m (ga @j (ga @hk (ga @c (ga @a0 (ga @n @wj))))))) trivial|fail
   all_goals exact⟨(),by rw[t];exact e⟩
 .rw[eI]at e;refine aC (ga @h @wj) trivial ?_
  all_goals rw[e]
theorem filter_none{α:Type}(p:α->Bool): ∀{l:List α},(∀y∈l,p y=false)->l.filter (λy=> !p y)=l
 |[],_=>rfl
 |x::l,h=>by
  rw[List.filter_cons,if_pos (by rw[h x (by simp)];rfl),filter_none p λy a=>h y (by simp[a])]
theorem IT{α:Type}(p:α->Bool){l:List α}{j:Nat}{x:α}(h:l[j]?=some x):(l.take (j+1)).filter p=if p x then(l.take j).filter p++[x]else(l.take j).filter p:=by
 have a:l.take (j+1)=l.take j++[x]:=by rw[s9 (aV.1 h).1];congr 2;exact(aV.1 h).2
 rw[a,List.filter_append,List.filter_cons];split<;>simp
theorem j9.app{b:Nat}{s a:List aa}(h:j9 b s a)(l:List aa):j9 b s (a++l):=λj cs c hg=>by
 have:=h j cs c hg;rw[fP (aV.1 this).1];exact this
theorem j9.setV{b:Nat}{s a:List aa}{i:Nat}{o:aa}(h:j9 b s a)(hi: ∀cs,a[i]? ≠some (.cells cs)):j9 b s (a.set i o):=λj cs c hg=>by
 have:=h j cs c hg;rw[bC (λe=>by subst e;exact hi cs this)];exact this
theorem j9.refl(b:Nat)(s:List aa):j9 b s s:=λ_ _ _ h=>h
theorem QU(g:FuncId)(a cs:List AV)(s:List aa):bs Tryz.prog 226 [.emp 37,.clo g a cs] s λd c=>d= .emp 37/\c=s:=by
 have b:=Sj g a cs s;refine cz Tryz.f226 ?_ [] [[6,5,0,1]];simp only[fzc2 qF];exact yy @wj @b
 all_goals first|rfl|exact⟨rfl,rfl⟩|trace_state
theorem O1:qF.length=37:=by simp[qF,zY,fg]
set_option maxHeartbeats 2000000 in
theorem QV{s:List aa}{i:Nat}(l:ar)(V:s[i]?=some (.vec 71 37 (dZ l)))(hn:l.length<=1000000)(g:FuncId)(Y cs:List AV)(a:bD->Bool)(w: ∀(x:bD) (o:List aa) (K:AV->List aa->Nat->Prop),x∈l->j9 0 s o->(∀X,K (.d (dB (a x))) o X)->af Tryz.prog (.clo g Y cs) [.d (.agg (aX x))] o K):
  bs Tryz.prog 226 [.vec i l.length 37,.clo g Y cs] s λd s'=>j9 0 s s'/\ ∀f,bE s' (f+2) d=some (.sl 37 ((l.filter (λx=> !a x)).map aX)):=by
 have a3:=pR l;have hi:=(aV.1 V).1;have I:=Sk l V hn g Y cs a (λx K hx hK=>w x s K hx (j9.refl 0 s) hK);refine cz Tryz.f226 ?_ [] [[6,5,0,1]];simp only[fzc2 qF];rcases yD a l 0 with⟨h1,T⟩|⟨H,x0,h1,T,h3,h4⟩
 .rw[h1]at I;rw[filter_none a T]
  repeat' first|refine ab (λ_=> ?_) λ_=> ?_|refine aG @wj @I ?_|exact aF @wj @I|fail
  refine⟨j9.refl 0 s,λf=> ?_⟩;simp only[V,a3,and_self,true_and,if_true,Ke,eY,HR]
 .rw[h1,aw]at I;have a7:H<l.length:=(aV.1 T).1;have hne:((H:Int)== -1)=false:=by simp
  have S:IntKind.i64.wrap ((H:Int)+1)=((H+1:Nat):Int):=bN a8 a8
  repeat' first|refine ab (λ_=> ?_) λ_=> ?_|refine aG (ga @hne (ga @S @wj)) @I ?_|exact aF (ga @hne (ga @S @wj)) @I|fail
  refine aZ.tr (λ(b:Nat×Nat×ar×List aa)=>[(6,iN b.1),(5,iN b.2.1)]) (λb=>b.2.2.2) (λm b=>m+b.1=l.length/\b.2.2.1.length=l.length/\b.2.1<b.1/\j9 0 s b.2.2.2/\b.2.2.2[i]?=some (.vec 71 37 (dZ b.2.2.1))/\b.2.2.1.take b.2.1=(l.take b.1).filter (λx=> !a x)/\ ∀j,b.1<=j->b.2.2.1[j]?=l[j]?) (l.length-(H+1)) (H+1,H,l,s) aA aA rfl ⟨by dsimp only;omega,rfl,Nat.lt_succ_self _,j9.refl 0 s,V,?_,λ_ _=>rfl⟩ ?_
  .dsimp only;rw[IT _ T,h3];exact(filter_none a h4).symm
  rintro m ⟨j,n,L,o⟩ ⟨hm,v,a5,G,c,z,h⟩;dsimp only at hm v a5 G c z h⊢;have q:(dZ L).length=l.length*37:=by rw[pR,v]
  have N:=(aV.1 c).1;by_cases J:j<l.length
  .have g0:l[j]?=some l[j]:=bQ J;have g1:L[j]?=some l[j]:=by rw[h _ (bg _)];exact g0
   have t:decide ((j:Int)<(l.length:Int))=true:=by simp;omega
   have a0:=HD g1;have W:j*37+37<=l.length*37:=by omega
   have C:IntKind.i64.wrap ((j:Int)+1)=((j+1:Nat):Int):=bN a8 a8;have D:IntKind.i64.wrap ((n:Int)+1)=((n+1:Nat):Int):=bN a8 a8;have y:=G.app [aa.cells ((aX l[j]).map .d)];have A:=IT (λx=> !a x) g0;have hc:=λK=>w l[j] (o++[.cells ((aX l[j]).map .d)]) K (vr J) y
   have u:(o++[.cells ((aX l[j]).map .d)])[i]?=some (.vec 71 37 (dZ L)):=by rw[fP N];exact c
   have B:n<l.length:=by omega
   have F:=Qc (L:=L) (k:=n) a8 l[j];have q1:n*37+37<=l.length*37:=by omega
   have P:m-1<m:=by omega
   by_cases hp:a l[j]=true
   .rw[hp]at hc A
    repeat' first|refine ab (λ_=> ?_) λ_=> ?_|refine hc _ (λX=> ?_)|refine aG (ga @t (ga @C (ga @D (ga @c (ga @u (ga @q (ga @J (ga @B (ga @a0 (ga @W (ga @rU (ga @fg @wj)))))))))))) trivial ?_|exact aF (ga @t (ga @C (ga @D (ga @c (ga @u (ga @q (ga @J (ga @B (ga @a0 (ga @W (ga @rU (ga @fg @wj)))))))))))) trivial|fail
    exact⟨m-1,(j+1,n,L,o++[.cells ((aX l[j]).map .d)]),P,⟨rfl,rfl⟩,rfl,by dsimp only;omega,v,by dsimp only;omega,y,u,by dsimp only;rw[A,z];rfl,λk hk=>h k (by dsimp only at hk;omega)⟩
   .rw[show a l[j]=false by simpa using hp]at hc A
    repeat' first|refine ab (λ_=> ?_) λ_=> ?_|refine hc _ (λX=> ?_)|refine aG (ga @t (ga @C (ga @D (ga @c (ga @u (ga @q (ga @J (ga @B (ga @a0 (ga @W (ga @q1 (ga @F (ga @rU (ga @fg @wj)))))))))))))) trivial ?_|exact aF (ga @t (ga @C (ga @D (ga @c (ga @u (ga @q (ga @J (ga @B (ga @a0 (ga @W (ga @q1 (ga @F (ga @rU (ga @fg @wj)))))))))))))) trivial|fail
    refine⟨m-1,(j+1,n+1,L.set n l[j],(o++[aa.cells ((aX l[j]).map .d)]).set i (.vec 71 37 (dZ (L.set n l[j])))),P,⟨rfl,rfl⟩,rfl,by dsimp only;omega,by dsimp only;rw[jU];exact v,by dsimp only;omega,y.setV (λcs e=>by rw[u]at e;cases e),?_,?_,λk hk=> ?_⟩
    .dsimp only;rw[ej (by rw[aQ];omega)]
    .dsimp only;rw[A,if_pos (by rfl),<-z,s9 (by simp;omega),List.getElem_set_self,List.take_set_of_le (bg _)]
    .dsimp only at hk⊢;rw[bC a8];exact h k a8
  .have O:j=l.length\/l.length<j:=by omega
   have O:j=l.length:=by omega
   subst O;rw[dL (bg _)]at z;have t:decide ((l.length:Int)<(l.length:Int))=false:=by simp
   have Q:n<=L.length:=by omega
   obtain⟨Z,U⟩: ∃Z,Z=(dZ L).take (n*37)++(List.replicate (l.length-n) qF).flatten++(dZ L).drop (n*37+(l.length-n)*37):=⟨_,rfl⟩
   have E:uT o 37 qF (.vwn i l.length n (l.length-n) 37)=some (.d (.sc (.tuple #[])),o.set i (.vec 71 37 Z)):=by
    show((gY l.length o[i]?).bind λp=>if(37=37/\p.1=37/\qF.length=37)/\0<l.length-n/\n+(l.length-n)<=l.length then some (AV.d (.sc (.tuple #[])),o.set i (.vec (mA o[i]?) 37 (p.2.take (n*37)++(List.replicate (l.length-n) qF).flatten++p.2.drop (n*37+(l.length-n)*37))))else none)=_;have a6:gY l.length o[i]?=some (37,dZ L):=by
     rw[c];show(if _ then _ else _)=_;rw[if_pos ⟨by omega,q⟩]
    rw[a6,eE,if_pos ⟨⟨rfl,rfl,O1⟩,by omega,by omega⟩,U,c];rfl
   have a1:Z.take (n*37)=dZ (L.take n):=by
    rw[U,bk,ij (by rw[cC,pR];omega),sa,Nat.min_self,AK L n Q]
   have M:Z.length=l.length*37:=by
    rw[U,aQ,aQ,cC,ax,pR,Go.Ab.flatten_len (sz:=37) _ (λr hr=>by rw[(List.mem_replicate.1 hr).2];exact O1),gH,v];omega
   have R:(o.set i (.vec 71 37 Z))[i]?=some (.vec 71 37 Z):=by rw[fB];simp[N]
   clear U;have r2:n<=l.length:=by omega
   have r1:(n:Int)<=(l.length:Int):=by omega
   have r0:(n:Int)<(l.length:Int):=by omega
   have a2:chunk 37 n (((L.take n).map aX).flatten)=(L.take n).map aX:=by
    have:=HR (L.take n);rw[cC,qO Q]at this;exact this
   rw[<-z];have r3:(0:Int)<(l.length:Int):=by omega
   have a4:j9 0 s (o.set i (.vec 71 37 Z)):=G.setV λcs e=>by rw[c]at e;cases e
   repeat' first|simp only[ky]|refine ab (λ_=> ?_) λ_=> ?_|refine aG (ga @t (ga @c (ga @q (ga @r0 (ga @r1 (ga @r2 (ga @r3 (ga @E (ga @R (ga @M (ga @fY (ga @pI (ga @oL @wj))))))))))))) trivial ?_|exact aF (ga @t (ga @c (ga @q (ga @r0 (ga @r1 (ga @r2 (ga @r3 (ga @E (ga @R (ga @M (ga @fY (ga @pI (ga @oL @wj))))))))))))) trivial|fail
   refine⟨a4,λf=> ?_⟩;rw[a1,Ke,eY,a2]
theorem ZI(x:bD)(k:Nat)(g:FuncId)(c cs:List AV)(b:Bool)(s:List aa)(hk:s[k]?=some (.cells [.clo g c cs]))(hc: ∀K,(∀a,K (.d (dB b)) s a)->af Tryz.prog (.clo g c cs) [.d (.agg (au x.id))] s K):
  bs Tryz.prog 227 [.d (.agg (aX x)),.ptr k 0] s λd e=>d= .d (dB b)/\e=s:=by
 refine cz Tryz.f227 ?_ [100002]
 repeat' first|refine ab (λ_=> ?_) λ_=> ?_|refine hc _ (λa=> ?_)|refine aG (ga @hk @wj) trivial ?_|exact aF (ga @hk @wj) trivial|fail
 all_goals first|rfl|exact⟨rfl,rfl⟩|(simp_all;done)|trace_state
theorem Nw(l:ar)(u:l.length<=1000000)(g:FuncId)(e cs:List AV)(p:Dg->Bool)(s:List aa)(b: ∀(x:bD) (c:List aa) (K:AV->List aa->Nat->Prop),x∈l->j9 0 s c->(∀A,K (.d (dB (p x.id))) c A)->af Tryz.prog (.clo g e cs) [.d (.agg (au x.id))] c K):
  bs Tryz.prog 155 [.d (.sl 37 (l.map aX)),.clo g e cs] s λd v=>j9 0 s v/\ ∀f,bE v (f+2) d=some (.sl 37 ((l.filter (λx=> !p x.id)).map aX)):=by
 have r:=(j9.refl 0 s).app [.cells [.clo g e cs]];cases l with
 |nil=>
  have k:=λs=>DP 37 s;refine cz Tryz.f155 ?_;refine sH @wj (ga (DP 37) @QU) ?_
  all_goals first|exact⟨r,λf=>rfl⟩|trace_state
 |cons x l=>
  have k:=HS x l (by rw[aY]at u;omega)
  have z:=QV (s:=s++[.cells [.clo g e cs],.vec 71 37 (dZ (x::l))]) (i:=s.length+1) (x::l) (by simp) u 227 [] [.ptr s.length 0] (λx=>p x.id) (λy c K C hk B=>af.fn ((ZI y s.length g e cs (p y.id) c (hk s.length _ (fG _) (by simp)) (λw m=>b y c w C (λj a _ h=>hk j a (fG _) (by
   have o:=(aV.1 h).1;rw[fP o];exact h)) m)).mono (by rintro _ _ ⟨rfl,rfl⟩;exact B 2)))
  refine cz Tryz.f155 ?_
  repeat' first|refine ab (λ_=> ?_) λ_=> ?_|(refine af.fn (z.mono ?_);rintro d c ⟨q,n⟩)|refine aG @wj @k ?_|exact aF @wj @k|fail
  have t:=jC Tryz.prog d;refine aC (ga @t @wj) trivial ?_
  all_goals first|exact⟨λj a _ h=>q j a (fG _) (by rw[fP (aV.1 h).1];exact h),n⟩|trace_state
theorem ZC(x d:Dg):aI Tryz.prog 156 [.agg (au x),.ref (au d)] (dB (decide (x=d))):=by
 refine aL Tryz.f156 ?_ [100002]
 repeat' first|refine ab (λ_=> ?_) λ_=> ?_|refine aG trivial trivial ?_|exact aF trivial trivial|fail
 all_goals first|rfl|(simp_all;done)|trace_state
theorem Nu(l:ar)(f:l.length<=1000000)(m: ∀x∈l,bS x.pat/\db x.pat)(d:Dg):aI Tryz.prog 89 [.sl 37 (l.map aX),.agg (au d)] (.tup [.sl 37 ((gT l d).1.map aX),dI (gT l d).2]):=by
 have a:=wO l f d;have b:=ZH l f m d;unfold gT;by_cases hg:bh l d=none
 .rw[if_pos hg];rw[hg]at a;refine aL Tryz.f89 ?_ [100003];exact bL (ga @dG (ga @bH @wj)) @a
  all_goals first|rfl|trace_state
 .rw[if_neg hg];obtain⟨i,h⟩: ∃i,bh l d=some i:=Option.ne_none_iff_exists'.1 hg;rw[h]at a;by_cases c:mI d l=true
  .rw[if_pos c];rw[c]at b;refine aL Tryz.f89 ?_ [100003];exact bL (ga @dG (ga @bH @wj)) (ga @a @b)
   all_goals first|rfl|trace_state
  .rw[if_neg c];rw[show mI d l=false by simpa using c]at b;have j:=λs=>Nw l f 156 [] [.d (.ref (au d))] (λx=>decide (x=d)) s (λx n K _ _ k=>af.data (ZC x.id d) rfl (k 0));refine aL Tryz.f89 ?_ [100003]
   repeat' first|refine ab (λ_=> ?_) λ_=> ?_|(refine af.fn ((j _).mono ?_);rintro v n ⟨_,e⟩)|refine aG (ga @dG (ga @bH @wj)) (ga @a @b) ?_|exact aF (ga @dG (ga @bH @wj)) (ga @a @b)|fail
   have g:=jC Tryz.prog v;refine aC (ga @g @wj) trivial ?_;rw[e 2];rfl
def kF(s:ar)(d:Dg)(m:Meta):ar×Dg×Int:=
 match bh s d with
 |none=>([],.zero,7)
 |some p=>if(gT s d).2≠0 then([],.zero,(gT s d).2)else si (gT s d).1 (fI p m)
set_option maxHeartbeats 2000000 in
theorem Zy(s:ar)(t:s.length<=1000)(r:bT (b8 s))(k: ∀x∈s,bS x.pat/\db x.pat)(d:Dg)(m:Meta)(ha: ∀p,bh s d=some p->bS (fI p m)/\db (fI p m)/\(bu (fI p m)).length<=1000000):aI Tryz.prog 36 [.sl 37 (s.map aX),.agg (au d),.agg (eS m)] (nA (kF s d m)):=by
 have b:=wO s a8 d;have f:=Nu s a8 k d;have c: ∀x∈(gT s d).1,x∈s:=by
  intro x a;unfold gT at a
  repeat' split at a
  .cases a
  .cases a
  .exact(na.1 a).1
 have i:(gT s d).1.length<=1000:=by
  unfold gT
  repeat' split
  .simp
  .simp
  .exact ez (xE _ _) t
 have j:bT (b8 (gT s d).1):=by
  unfold gT
  repeat' split
  .exact .nil
  .exact .nil
  .exact r.sublist (List.filter_sublist.map _)
 unfold kF nA;cases hg:bh s d with
 |none=>
  dsimp only;rw[hg]at b;refine aL Tryz.f36 ?_
  repeat' first|refine ab (λ_=> ?_) λ_=> ?_|refine aH ?_|refine af.data (b) rfl ?_|simp only[dG,fw,b9,bH,iF,aM,wj,wy,qg,aE,reduceCtorEq,reduceIte,Nat.reduceAdd,Nat.reduceMul,Nat.reduceEqDiff,Nat.reduceLT,Nat.reduceLeDiff,Nat.reduceSub,ax,aD,aB,aw]
 |some p=>
  dsimp only;rw[hg]at b;obtain⟨n,o,q⟩:=ha p hg;have g:aI Tryz.prog 45 [.sl 37 ((gT s d).1.map aX),.agg (br {author:=m.author,message:=m.message,time:=m.time,deps:=p.deps,changes:=p.changes})] (nA (si (gT s d).1 (fI p m))):=UX (gT s d).1 i j (λx a=>k x (c x a)) (fI p m) n o q;generalize gT s d=R at f g⊢;obtain⟨u,e⟩:=R
  dsimp only at f g⊢;by_cases h:e=0
  .subst h;rw[if_neg (by simp)];unfold nA at g;refine aL Tryz.f36 ?_
   repeat' first|refine ab (λ_=> ?_) λ_=> ?_|refine aH ?_|refine af.data (b) rfl ?_|refine af.data (f) rfl ?_|refine af.data (g) rfl ?_|simp only[dG,fw,b9,bH,iF,aM,bne_self_eq_false,wj,wy,qg,aE,reduceCtorEq,reduceIte,Nat.reduceAdd,Nat.reduceMul,Nat.reduceEqDiff,Nat.reduceLT,Nat.reduceLeDiff,Nat.reduceSub,ax,aD,aB,aw]
  .have l:(e !=0)=true:=by simpa using h
   rw[if_pos h];refine aL Tryz.f36 ?_
   repeat' first|refine ab (λ_=> ?_) λ_=> ?_|refine aH ?_|refine af.data (b) rfl ?_|refine af.data (f) rfl ?_|simp only[l,dG,fw,b9,bH,iF,aM,wj,wy,qg,aE,reduceCtorEq,reduceIte,Nat.reduceAdd,Nat.reduceMul,Nat.reduceEqDiff,Nat.reduceLT,Nat.reduceLeDiff,Nat.reduceSub,ax,aD,aB,aw]
theorem Dq{s:ar}(hc:gl aq s=0)(d:Dg)(m:Meta):kF s d m=if(eT s d).2≠0 then([],.zero,(eT s d).2)else eZ aq (eT s d).1 (fI ((bh s d).getD .zero) m):=by
 have f:=mw aq hc;unfold kF;cases hg:bh s d with
 |none=>
  have h:eT s d=([],7):=by unfold eT;rw[if_pos hg]
  rw[h];rfl
 |some p=>
  dsimp only;rw[eF];have a:d∈b8 s:=fX λh=>by rw[oe.2 h]at hg;cases hg
  obtain⟨x,i,rfl⟩:=bM.1 a;have c:gT s x.id=eT s x.id:=by
   unfold gT eT;rw[EO x.id (uE f)];have g:s.filter (λy=> !decide (y.id=x.id))=kY [x.id] s:=by
    unfold kY;refine List.filter_congr λy _=> ?_;rw[bI,bI];by_cases e:x.id=y.id
    .rw[if_pos e,e];simp
    .rw[if_neg e,decide_eq_false λb=>e b.symm]
   rw[g]
  rw[c];by_cases h0:(eT s x.id).2=0
  .rw[if_neg (by simpa using h0),if_neg (by simpa using h0)];exact Pd (mw aq ((Ku aq hc i).2 h0).1) _
  .rw[if_pos h0,if_pos h0]
structure oG(s:ar):Prop where
 v:dm aq s
 len:s.length<=12
 pat: ∀x∈s,bS x.pat/\db x.pat
theorem Kt(p:aU):(bu p).length<=1000000:=ez (EP p) (by decide)
theorem oG.alive{s:ar}(h:oG s)(i:ak):aI Tryz.prog 43 [.sl 37 (s.map aX),.agg (ae i)] (dB (qV s i)):=EB s (ez h.len (by decide)) h.pat (λx _=>Kt _) h.v.sorted.nodup i
theorem oG.fine{s:ar}(h:u0 s)(a:o8 aq s=true):oG s/\s.length<=8:=by
 obtain⟨_,_,b⟩:=J7 h a;unfold o8 at a;simp only[dW,rY,decide_eq_true_eq]at a;have c:=(Bt a.1).1;exact⟨⟨mw aq a.2,by omega,λx d=>(b x d).1⟩,c⟩
theorem oG.add{s:ar}(h:oG s){p:aU}(hp:bS p/\db p)(d:s.length<=11)(h0:(eZ aq s p).2.2=0):oG (eZ aq s p).1/\jG s p (eZ aq s p).1 (eZ aq s p).2.1/\(eZ aq s p).1.length=s.length+1:=by
 have g:=Bu h.v h0;have c:=(u7 aq h0).2.2.2.2.2;have a:(eZ aq s p).1.length=s.length+1:=by rw[c];exact yZ s _
 refine⟨⟨g.w,by omega,λy b=> ?_⟩,g,a⟩;rcases(g.mem y).1 b with rfl|b
 .exact hp
 .exact h.pat y b
theorem RE{s:ar}(h:u0 s):aI Tryz.prog 14 [.sl 37 (s.map aX)] (dB (o8 aq s)):=VS s (λx a=>ez (h.pat x a).changes sQ) (GR h)
end Go.Proofs.Q
