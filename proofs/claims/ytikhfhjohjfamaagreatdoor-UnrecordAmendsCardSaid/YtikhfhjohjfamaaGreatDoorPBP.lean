/- Lemmas. -/
import Derived.Test.YtikhfhjohjfamaaGreatDoorPBN
set_option linter.unusedVariables false
set_option linter.unusedSimpArgs false
set_option maxRecDepth 100000
namespace Go.Proofs.Q
open Go Go.Bb Go.RowKit Go.Proofs.Lg
open Go.Ab (D RD)
theorem xV(p:aU): ∀(i:Nat) (x:ay),(ee p).1[i]?=some x->x.id=⟨(bj aq p).1,i⟩:=by
 intro i x h;unfold ee at h;split at h
 .simp at h
 .rw[dj,dy]at h;obtain⟨y,c,rfl⟩:=h;have a:=IL p i y c;have b:(mD (bj aq p).1 y).id={y.id with p:=(bj aq p).1}:=by
   unfold mD k9;dsimp only
   repeat' split
   all_goals rfl
  rw[b,a];rfl
theorem Sb(a:ak):du a a=0:=by
 unfold du;have h:bY a.p a.p=0:=(k8 a.p a.p).2 rfl;rw[if_neg (by rw[h];simp),if_neg a8,if_neg a8]
theorem Sa{d:Dg}{i j:Nat}(h:i<=j): ¬du ⟨d,j⟩ ⟨d,i⟩<0:=by
 unfold du;have a:bY d d=0:=(k8 d d).2 rfl;dsimp only;rw[if_neg (by rw[a];simp)];split
 .omega
 .split<;>omega
theorem S9{a b:ak}(h:bY a.p b.p<0): ¬du b a<0:=by
 unfold du;have c:=w8 a.p b.p;rw[if_pos a8];omega
def oU(l:ar):List ay:=l.flatMap λx=>(ee x.pat).1
theorem Ds{p:aU}(a:db p):(ee p).1.length<=80040:=by
 unfold ee;split
 .exact fG _
 .rw[aM];exact E5 a
def pd(V:eU)(A:List ay):List ak:=(A.filter λx=>decide (eN V x.id=[])).map (·.id)
theorem SZ(V:eU)(x:ay)(A:List ay):pd V (x::A)=if eN V x.id=[]then x.id::pd V A else pd V A:=by
 unfold pd;by_cases h:eN V x.id=[]
 .rw[List.filter_cons_of_pos (by simpa using h),if_pos h,bX]
 .rw[List.filter_cons_of_neg (by simpa using h),if_neg h]
def BI(l:ar):List ak:=pd (jh l).2 (oU l)
def tG:List ak->Bool
 |x::y::r=>ft x y&&tG (y::r)
 |_=>true
theorem JT{a b c:ak}(f:ft a b=true)(g:ft b c=true):ft a c=true:=by
 unfold ft at*;simp only[decide_eq_true_eq]at*;by_cases d:du a b=0
 .rw[(wu a b).1 d];exact g
 .by_cases e:du b c=0
  .rw[<-(wu b c).1 e];exact f
  .have:=uy (a:=a) (b:=b) (c:=c) a8 a8;omega
theorem MW: ∀{l:List ak},tG l=true->l.Pairwise (λa b=>ft a b=true)
 |[],_=> .nil
 |[x],_=>by simp
 |x::y::r,h=>by
  rw[tG,dW]at h;have d:=MW h.2;refine gX.2 ⟨λz c=> ?_,d⟩;rcases bF.1 c with rfl|c
  .exact h.1
  .exact JT h.1 ((gX.1 d).1 z c)
theorem Z6{l:List ak}(h:tG l=true):l.mergeSort ft=l:=List.mergeSort_of_pairwise (MW h)
def yw(d:Dg)(x:ay):ay:={k9 d x with over:=x.over.map (whole · d)}
theorem Ar{p:aU}{d:Dg}(hi:bj aq p=(d,0))(a:((dp p).all λx=>tG (x.over.map (whole · d)))=true):(ee p).1=(dp p).map (yw d):=by
 unfold ee;rw[hi,if_neg (by simp)];show(dp p).map (mD d)=_;refine vt λx b=> ?_;have h:=js.1 a x b;unfold mD yw;rw[Z6 h]
def ml(l:List ak):Prop:=l.Pairwise λa b=>du a b<0
theorem ml.nodup{l:List ak}(h:ml l):l.Nodup:=h.imp λh e=>by subst e;exact wv _ h
theorem Gd: ∀{a b:List ak},ml a->ml b->(∀x,x∈a↔x∈b)->a=b
 |[],[],_,_,_=>rfl
 |[],y::b,_,_,h=>absurd ((h y).2 (by simp)) (by simp)
 |x::a,[],_,_,h=>absurd ((h x).1 (by simp)) (by simp)
 |x::a,y::b,ha,hb,h=>by
  obtain⟨f,i⟩:=gX.1 ha;obtain⟨g,j⟩:=gX.1 hb;have e:x=y:=by
   apply fX;intro hne;have k:x∈b:=by
    rcases bF.1 ((h x).1 (by simp))with e|e
    .exact absurd e hne
    .exact e
   have l:y∈a:=by
    rcases bF.1 ((h y).2 (by simp))with e|e
    .exact absurd e.symm hne
    .exact e
   exact wv _ (uy (f y l) (g x k))
  subst e;congr 1;refine Gd i j λz=> ?_;have d:=h z;simp only[bF]at d;constructor
  .intro c;rcases d.1 (.inr c)with e|e
   .subst e;exact absurd (f z c) (wv _)
   .exact e
  .intro c;rcases d.2 (.inr c)with e|e
   .subst e;exact absurd (g z c) (wv _)
   .exact e
theorem JF(d:ak): ∀(l:List ak) (k:Nat),∃j,kQ d l k=k+j/\j<=l.length/\(∀x∈l.take j,du x d<0)/\(∀y,l[j]?=some y-> ¬du y d<0)
 |[],k=>⟨0,rfl,bg _,by simp,by simp⟩
 |y::l,k=>by
  unfold kQ;split
  .rename_i h;obtain⟨j,f,g,c,e⟩:=JF d l (k+1);refine⟨j+1,by omega,by simp;omega,?_,λz b=>e z (by simpa using b)⟩;intro x a;rw[jW]at a;rcases bF.1 a with rfl|a
   .exact h
   .exact c x a
  .rename_i h;exact⟨0,rfl,fG _,by simp,λz b=>by simp at b;subst b;exact h⟩
theorem JG(l:List ak)(d:ak)(o:ml l):ml (p7 l d)/\ ∀x,x∈p7 l d↔x=d\/x∈l:=by
 obtain⟨j,m,w,q,s⟩:=JF d l 0;rw[aw]at m;unfold p7;rw[m];split
 .rename_i h;have:=bR h;exact⟨o,λx=>⟨.inr,λh=>h.elim (λe=>by rw[e];exact this) id⟩⟩
 .rename_i h;have f:=jV j l;have i:ml (l.take j++l.drop j):=by rw[f];exact o
  obtain⟨u,k,v⟩:=vx.1 i;have t: ∀y∈l.drop j,du d y<0:=by
   intro y c;cases g:l.drop j with
   |nil=>rw[g]at c;cases c
   |cons z r=>
    have p:l[j]?=some z:=by
     have:(l.drop j)[0]?=some z:=by rw[g];rfl
     rw[gf]at this;simpa using this
    have n:=El (s z p) (λe=>h (by rw[<-e];exact p));rw[g]at c k;rcases bF.1 c with rfl|c
    .exact n
    .exact uy n ((gX.1 k).1 y c)
  refine⟨?_,λx=> ?_⟩
  .refine vx.2 ⟨u,gX.2 ⟨t,k⟩,λa ha b hb=> ?_⟩;rcases bF.1 hb with rfl|hb
   .exact q a ha
   .exact v a ha b hb
  .have hm:x∈l↔x∈l.take j\/x∈l.drop j:=by
    conv=>lhs;rw[<-f]
    exact fk
   rw[fk,bF,hm];constructor
   .rintro(h|h|h)
    .exact .inr (.inl h)
    .exact .inl h
    .exact .inr (.inr h)
   .rintro(h|h|h)
    .exact .inr (.inl h)
    .exact .inl h
    .exact .inr (.inr h)
theorem wz: ∀(r l:List ak),ml l->ml (gO r l)/\ ∀x,x∈gO r l↔x∈r\/x∈l
 |[],l,h=>⟨h,λx=>by simp[gO]⟩
 |d::r,l,h=>by
  obtain⟨a,b⟩:=JG l d h;obtain⟨c,e⟩:=wz r (p7 l d) a;refine⟨c,λx=> ?_⟩;rw[gO,e,b,bF];constructor
  .rintro(h|h|h)
   .exact .inl (.inr h)
   .exact .inl (.inl h)
   .exact .inr h
  .rintro((h|h)|h)
   .exact .inr (.inl h)
   .exact .inl h
   .exact .inr (.inr h)
theorem SO(a b:ak):(ft a b||ft b a)=true:=by
 have:=Bw a b;unfold ft;rw[jF,decide_eq_true_eq,decide_eq_true_eq];omega
theorem MV{l:List ak}(h:l.Nodup):ml (l.mergeSort ft):=by
 have d:(l.mergeSort ft).Nodup:=(List.mergeSort_perm l ft).nodup_iff.2 h;have hp:=List.pairwise_mergeSort (le:=ft) (λa b c f g=>JT f g) SO l;have ha:=List.Pairwise.and hp d;refine List.Pairwise.imp (λ{a b} h=> ?_) ha;have i:du a b≠0:=λe=>h.2 ((wu a b).1 e);have j:du a b<=0:=of_decide_eq_true h.1;clear h ha hp d;omega
theorem Z5{l:List ak}(h:l.Nodup):l.mergeSort ft=gO l []:=
 Gd (MV h) (wz l [] .nil).1 λx=>by
  rw[List.mem_mergeSort,(wz l [] .nil).2];simp
theorem H9: ∀{l:List ak},iR l=true->ml l
 |[],_=> .nil
 |[x],_=>gX.2 ⟨λ_ h=>(by cases h),.nil⟩
 |x::y::r,h=>by
  rw[iR]at h;by_cases h0:0<=du x y
  .rw[if_pos h0]at h;cases h
  .rw[if_neg h0]at h;have b:=H9 h;refine gX.2 ⟨λz a=> ?_,b⟩;rcases bF.1 a with rfl|a
   .omega
   .exact uy a8 ((gX.1 b).1 z a)
theorem K9(c:az)(k:Nat): ∀x∈fK c k,x.over=[]\/x.over=c.over:=by
 intro x a;unfold fK at a
 repeat' split at a
 all_goals try(simp only[jH]at a;subst a;first|exact .inl rfl|exact .inr rfl)
 rcases fk.1 a with a|a
 .obtain⟨i,hi,rfl⟩:=List.mem_mapIdx.1 a;exact .inl rfl
 .obtain⟨i,hi,rfl⟩:=bM.1 a;exact .inl rfl
theorem HI: ∀{l:List az} {own:List ay} (x:ay),x∈(eH l own).1->x∈own\/ ∃c∈l,x.over=[]\/x.over=c.over
 |[],own,x,h=> .inl h
 |c::l,own,x,h=>by
  rw[eH]at h;by_cases a:fm c≠0
  .rw[if_pos a]at h;cases h
  .rw[if_neg a]at h;by_cases b:iG c own≠0
   .rw[if_pos b]at h;cases h
   .rw[if_neg b]at h;rcases HI x h with h3|⟨y,h3,h4⟩
    .rcases fk.1 h3 with h3|h3
     .exact .inl h3
     .exact .inr ⟨c,by simp,K9 c _ x h3⟩
    .exact .inr ⟨y,er _ h3,h4⟩
theorem Rq{c:az}(h:fm c=0):iR c.over=true:=by
 rw[<-IQ]at h;by_cases ha:iR c.over=true
 .exact ha
 .exfalso;unfold yo at h;rw[if_pos (c:=iR c.over=false) (by simpa using ha)]at h
  repeat' split at h
  all_goals first
   |exact absurd h (by decide)
   |exact absurd h ‹_›
theorem ZQ{l:List ak}{d:Dg}(t:ml l)(h: ∀y∈l,isZero y.p=false->y.p≠d):(l.map (whole · d)).Nodup:=by
 have s:=t.nodup;refine List.pairwise_map.2 (List.Pairwise.imp_of_mem (λ{a b} ha hb hab e=>hab ?_) s);obtain⟨i,n⟩:=a;obtain⟨j,o⟩:=b;unfold whole at e;dsimp only at e;have k:=h _ ha;have m:=h _ hb;dsimp only at k m;by_cases f:isZero i=true/\0<=n<;>by_cases g:isZero j=true/\0<=o
 .rw[if_pos f,if_pos g]at e;injection e with _ e2
  have q:i= .zero:=by simpa[isZero]using f.1
  have r:j= .zero:=by simpa[isZero]using g.1
  rw[q,r,e2]
 .rw[if_pos f,if_neg g]at e;injection e with e1 e2
  have c:isZero j=true:=by
   by_cases c:isZero j=true
   .exact c
   .exact absurd e1.symm (m (by simpa using c))
  exact absurd ⟨c,by rw[<-e2];exact f.2⟩ g
 .rw[if_neg f,if_pos g]at e;injection e with e1 e2
  have c:isZero i=true:=by
   by_cases c:isZero i=true
   .exact c
   .exact absurd e1 (k (by simpa using c))
  exact absurd ⟨c,by rw[e2];exact g.2⟩ f
 .rw[if_neg f,if_neg g]at e;exact e
theorem sG{p:aU}(h:(bj aq p).2=0):dp p=(dN p).1/\(dN p).2=0:=by
 have h0:(cQ p).2=0:=by
  unfold bj at h;by_cases a:(cQ p).2≠0
  .rw[if_pos a]at h;exact absurd h a
  .simpa using a
 refine⟨by unfold dp;rw[if_neg (by simpa using h0)],?_⟩;unfold cQ at h0;by_cases a:(dN p).2=0
 .exact a
 .rw[if_pos a]at h0;exact absurd h0 a
theorem Ha{p:aU}(j:(bj aq p).1∉bu p):ee p=ew aq p:=by
 unfold ee ew;by_cases h:(bj aq p).2=0
 .obtain⟨g,b⟩:=sG h;rw[if_neg (c:=(bj aq p).2≠0) (by simpa using h),if_neg (c:=(bj aq p).2≠0) (by simpa using h),g];congr 1;refine vt λx d=> ?_;have e:(x.over.map (whole · (bj aq p).1)).mergeSort ft=gO (x.over.map (whole · (bj aq p).1)) []:=by
   refine Z5 ?_;obtain⟨_,_,i,f,_⟩:=jx b;rw[f]at d;rcases HI x d with a|⟨c,hc,a⟩
   .cases a
   .rcases a with a|a
    .rw[a];exact .nil
    .rw[a];refine ZQ (H9 (Rq (i c hc))) λy k l e=>j ?_;rw[<-e];exact Cl (yA aq h) c hc y (by unfold iV;simp[k]) l
  rw[uq];unfold mD;rw[e]
 .rw[if_pos h,if_pos h]
theorem Kx{out:List Dg}{q:Nat×Dg}: ∀{s:ar} {i:Nat},(∀x∈s,¬bY x.id q.2<0)->km out s i (some q)=some q
 |[],_,_=>rfl
 |x::s,i,h=>by
  have a:decide (bY x.id q.2<0)=false:=decide_eq_false (h x (by simp));have b:BG x.id (some q)=false:=a;rw[BP,b,if_neg (by simp)];exact Kx λy c=>h y (er _ c)
theorem H4(l:List Dg): ∀m:List Dg,gz l m=m.all (bI l ·)
 |[]=>rfl
 |d::m=>by
  rw[gz,List.all_cons,H4 l m];cases bI l d<;>simp
theorem Kw{out:List Dg}: ∀{s:ar} {i:Nat},bT (b8 s)->(eI (lO out) s i= -1/\km out s i none=none)\/ ∃j x,eI (lO out) s i=((i+j:Nat):Int)/\s[j]?=some x/\km out s i none=some (i+j,x.id)
 |[],i,_=> .inl ⟨rfl,rfl⟩
 |x::s,i,h=>by
  obtain⟨d,e⟩:=gX.1 h;have hc:(!bI out x.id&&(gz out (bu x.pat)&&BG x.id none))=lO out x:=by
   unfold lO;rw[H4,show BG x.id none=true from rfl,Bool.and_true]
  rw[BP,eI,hc];by_cases hk:lO out x=true
  .rw[if_pos hk,if_pos hk];refine .inr ⟨0,x,rfl,rfl,Kx λy f c=> ?_⟩;have:=d y.id (eR f);exact oW _ (nk this c)
  .rw[if_neg hk,if_neg hk];rcases Kw (i:=i+1) e with⟨a,b⟩|⟨j,y,a,b,h5⟩
   .exact .inl ⟨a,b⟩
   .refine .inr ⟨j+1,y,?_,by simpa using b,?_⟩
    .rw[a];congr 1;omega
    .rw[h5];congr 2;omega
theorem KI{s:ar}(h:bT (b8 s)): ∀(n:Nat) (O:List Dg),ko s n O=lP s n O
 |0,_=>rfl
 |n+1,O=>by
  rw[ko,lP];rcases Kw (out:=O) (i:=0) h with⟨a,b⟩|⟨j,y,a,b,h5⟩
  .rw[a,b,if_pos (by decide)]
  .rw[a,h5,if_neg a8];dsimp only;rw[aw,fY,b,eY,eF,KI h n]
theorem Gx{s:ar}(h:dm aq s){d:Dg}(b:d∈b8 s):(ee ((bh s d).getD .zero)).1=(ew aq ((bh s d).getD .zero)).1:=by
 obtain⟨x,a,rfl⟩:=bM.1 b;rw[iT h.sorted.nodup x a,eF,Ha];rw[(h.id x a).2];exact uE h x a
theorem pg(s:ar): ∀l:List Dg,gD aq s l=l.flatMap λd=>(ew aq ((bh s d).getD .zero)).1
 |[]=>rfl
 |d::l=>by rw[gD,jt,pg s l]
theorem J9{α β:Type}(f:α->List β): ∀l:List α,(l.flatMap f).reverse=l.reverse.flatMap λx=>(f x).reverse
 |[]=>rfl
 |x::l=>by rw[jt,List.reverse_append,J9 f l,vy,List.flatMap_append];simp
theorem Ed{α β:Type}{f g:α->List β}: ∀{l:List α},(∀x∈l,f x=g x)->l.flatMap f=l.flatMap g
 |[],_=>rfl
 |x::l,h=>by rw[jt,jt,h x (by simp),Ed λy a=>h y (er _ a)]
theorem SJ{s:ar}(h:dm aq s):lI s=(gD aq s (dD s)).reverse:=by
 unfold lI;rw[KI h.sorted,pg,J9];refine Ed λd a=> ?_;have hm:d∈b8 s:=((qh h).2 d).1 (vw.1 a);unfold lV;rw[Gx h hm]
theorem T6(V:eU)(k i:ak)(l:List ak):eN (V++[(k,l)]) i=if i∈V.map (·.1)then eN V i else if k=i then l else[]:=by
 induction V with
 |nil=>simp[eN]
 |cons e V d=>
  rw[gb,eN,eN,d,bX];by_cases h:e.1=i
  .rw[if_pos h,if_pos h,if_pos (by simp[h])]
  .rw[if_neg h,if_neg h];have a:i∈(e.1::V.map (·.1))↔i∈V.map (·.1):=by
    rw[bF];exact⟨λc=>c.resolve_left λb=>h b.symm,.inr⟩
   simp only[a]
theorem T8(V:eU)(k i:ak)(l:List ak):eN (V.map λe=>if e.1=k then(e.1,e.2++l)else e) i=if k=i/\i∈V.map (·.1)then eN V i++l else eN V i:=by
 induction V with
 |nil=>simp[eN]
 |cons e V f=>
  rw[bX,eN,eN,f,bX];by_cases hk:e.1=k
  .rw[if_pos hk];dsimp only;by_cases h:e.1=i
   .rw[if_pos h,if_pos h,if_pos ⟨hk.symm.trans h,by simp[h]⟩]
   .have a: ¬k=i:=λc=>h (hk.trans c);rw[if_neg h,if_neg h,if_neg (λb=>a b.1),if_neg (λb=>a b.1)]
  .rw[if_neg hk];by_cases h:e.1=i
   .have a: ¬k=i:=λc=>hk (h.trans c.symm);rw[if_pos h,if_pos h,if_neg (λb=>a b.1)]
   .rw[if_neg h,if_neg h];have d:i∈(e.1::V.map (·.1))↔i∈V.map (·.1):=by
     rw[bF];exact⟨λb=>b.resolve_left λc=>h c.symm,.inr⟩
    simp only[d]
theorem T5(V:eU)(k i:ak)(l:List ak):eN (jd V k l) i=if k=i then eN V i++l else eN V i:=by
 unfold jd;by_cases h:k∈V.map (·.1)
 .rw[if_pos h,T8];by_cases hk:k=i
  .rw[if_pos hk,if_pos ⟨hk,by rw[<-hk];exact h⟩]
  .rw[if_neg hk,if_neg λa=>hk a.1]
 .rw[if_neg h,T6];by_cases hk:k=i
  .subst hk;rw[if_neg h,if_pos rfl,if_pos rfl,yM h];rfl
  .rw[if_neg hk,if_neg hk];by_cases hi:i∈V.map (·.1)
   .rw[if_pos hi]
   .rw[if_neg hi,yM hi]
theorem Pf(R:List ak)(d i:ak):i∈sj R d↔i=d\/i∈R:=by
 unfold sj;by_cases h:eW R d=true
 .rw[if_pos h];exact⟨.inr,λa=>a.elim (λe=>by rw[e];exact(nx _ _).1 h) id⟩
 .rw[if_neg h,fk,jH];exact⟨λa=>a.symm,λa=>a.symm⟩
theorem JO(x:ay): ∀(l:List ak) (b:List ak×eU) (i:ak),i∈(kh x l b).1↔i∈b.1\/(x.kind=7/\i∈l)
 |[],b,i=>by simp[kh]
 |d::l,b,i=>by
  rw[kh,JO x l];dsimp only;by_cases a:x.kind=7
  .rw[if_pos a,Pf,bF];constructor
   .rintro((h|h)|h)
    .exact .inr ⟨a,.inl h⟩
    .exact .inl h
    .exact .inr ⟨a,.inr h.2⟩
   .rintro(h|⟨_,h|h⟩)
    .exact .inl (.inr h)
    .exact .inl (.inl h)
    .exact .inr ⟨a,h⟩
  .rw[if_neg a];simp[a]
theorem JP(x:ay): ∀(l:List ak) (b:List ak×eU) (i:ak),l.Nodup->eN (kh x l b).2 i=eN b.2 i++if i∈l then[x.id]else[]
 |[],b,i,_=>by simp[kh]
 |d::l,b,i,h=>by
  obtain⟨c,f⟩:=nP.1 h;rw[kh,JP x l _ i f];dsimp only;rw[T5];by_cases a:d=i
  .subst a;rw[if_pos rfl,if_neg c,if_pos (by simp)];simp
  .rw[if_neg a];have:i∈d::l↔i∈l:=by rw[bF];exact⟨λg=>g.resolve_left λe=>a e.symm,.inr⟩
   simp only[this]
def px(A:List ay)(i:ak):List ak:=(A.filter λy=>eW y.over i).map (·.id)
theorem Ec(out:List ay)(i:ak):mC out i=true↔ ¬ ∃y∈out,y.kind=7/\i∈y.over:=by
 unfold mC;rw[js];constructor
 .rintro h ⟨y,b,a,hi⟩;have:=h y b;rw[a,(nx _ _).2 hi]at this;simp at this
 .intro h y b;by_cases a:y.kind=7
  .have: ¬i∈y.over:=λhi=>h ⟨y,b,a,hi⟩;have:eW y.over i=false:=by
    rw[<-Bool.not_eq_true,nx];exact this
   rw[this];simp
  .simp[a]
theorem Eu: ∀(L out:List ay) (b:List ak×eU),(∀x∈L,x.over.Nodup)->(∀i,i∈b.1↔ ∃y∈out,y.kind=7/\i∈y.over)->(∀i,eN b.2 i=px out.reverse i)-> ∀i,eN (mG L b).2 i=px (iA L out).reverse i
 |[],out,b,_,_,hV,i=>hV i
 |x::L,out,b,hn,hR,hV,i=>by
  rw[mG,iA];have c:=λy a=>hn y (er _ a);have g:(eW b.1 x.id=true)↔ ¬mC out x.id=true:=by
   rw[Ec,nx,hR,Classical.not_not]
  by_cases e:eW b.1 x.id=true
  .rw[if_pos e,if_neg (g.1 e)];exact Eu L out b c hR hV i
  .have f:mC out x.id=true:=fX λh=>e (g.2 h);rw[if_neg e,if_pos f];refine Eu L (x::out) _ c (λj=> ?_) (λj=> ?_) i
   .rw[JO,hR];constructor
    .rintro(⟨y,a,h⟩|h)
     .exact⟨y,er _ a,h⟩
     .exact⟨x,by simp,h⟩
    .rintro⟨y,a,h⟩;rcases bF.1 a with rfl|a
     .exact .inr h
     .exact .inl ⟨y,a,h⟩
   .rw[JP x _ _ _ (hn x (by simp)),hV];unfold px;rw[vy,List.filter_append,fF];congr 1;by_cases d:j∈x.over
    .rw[if_pos d,List.filter_cons_of_pos (by simpa using(nx _ _).2 d)];rfl
    .rw[if_neg d,List.filter_cons_of_neg (by rw[nx];exact d)];rfl
theorem BD(i:ak): ∀(A:List ay) (out:List ak),ml out->ml (iU i A out)/\ ∀z,z∈iU i A out↔z∈px A i\/z∈out
 |[],out,h=>⟨h,λz=>by simp[iU,px]⟩
 |x::A,out,h=>by
  rw[iU];by_cases a:eW x.over i=true
  .rw[if_pos a];obtain⟨d,e⟩:=JG out x.id h;obtain⟨b,c⟩:=BD i A _ d;refine⟨b,λz=> ?_⟩;rw[c,e];unfold px;rw[List.filter_cons_of_pos (by simpa using a),bX,bF];constructor
   .rintro(h|h|h)
    .exact .inl (.inr h)
    .exact .inl (.inl h)
    .exact .inr h
   .rintro((h|h)|h)
    .exact .inr (.inl h)
    .exact .inl h
    .exact .inr (.inr h)
  .rw[if_neg a];obtain⟨b,c⟩:=BD i A _ h;refine⟨b,λz=> ?_⟩;rw[c];unfold px;rw[List.filter_cons_of_neg (by simpa using a)]
theorem Py(p:aU): ∀x∈(ew aq p).1,x.over.Nodup:=by
 intro x a;unfold ew at a;by_cases h:(bj aq p).2≠0
 .rw[if_pos h]at a;cases a
 .rw[if_neg h]at a;obtain⟨y,_,rfl⟩:=bM.1 a;rw[uq];exact(wz _ [] .nil).1.nodup
theorem pL{s:ar}(h:dm aq s){d:Dg}(a:d∈b8 s): ∀(j:Nat) (x:ay),(ew aq ((bh s d).getD .zero)).1[j]?=some x->x.id=⟨d,j⟩:=by
 intro j x b;rw[<-Gx h a]at b;rw[xV _ j x b];obtain⟨y,c,rfl⟩:=bM.1 a;rw[iT h.sorted.nodup y c,eF,(h.id y c).2]
theorem RG{s:ar}(h:dm aq s){l:List Dg}(c: ∀d∈l,d∈b8 s)(m:l.Nodup):((l.flatMap λd=>(ew aq ((bh s d).getD .zero)).1).map (·.id)).Nodup:=by
 refine List.pairwise_map.2 ?_;rw[List.pairwise_flatMap];refine⟨λd g=>s7.2 λi j hi f k e=> ?_,List.Pairwise.imp_of_mem (λ{a b} ha hb hab x hx y hy e=>hab ?_) m⟩
 .rw[pL h (c d g) i _ (bQ hi),pL h (c d g) j _ (bQ f)]at e;injection e with _ e2
  omega
 .obtain⟨i,hi⟩:=fE hx;obtain⟨j,f⟩:=fE hy;rw[pL h (c a ha) i x hi,pL h (c b hb) j y f]at e;injection e
theorem E3: ∀(L out:List ay),List.Sublist (iA L out).reverse (out.reverse++L)
 |[],out=>by rw[iA,bq];exact List.Sublist.refl _
 |x::L,out=>by
  rw[iA];refine(E3 L _).trans ?_;split
  .rw[vy,bk];exact List.Sublist.refl _
  .exact List.Sublist.append (List.Sublist.refl _) (List.sublist_cons_self x L)
theorem ED{s:ar}(h:dm aq s)(i:ak):eN (jh s).2 i=px (fJ aq s).reverse i:=by
 unfold jh fJ;rw[SJ h];refine Eu _ [] ([],[]) (λx a=> ?_) (λj=> ?_) (λj=>rfl) i
 .rw[vw,pg]at a;obtain⟨d,_,a⟩:=vu.1 a;exact Py _ x a
 .constructor
  .intro b;cases b
  .rintro⟨y,c,_⟩;cases c
theorem T9{s:ar}(h:dm aq s)(i:ak):(eN (jh s).2 i).Nodup:=by
 rw[ED h];unfold px fJ;have f:=E3 (gD aq s (dD s)).reverse [];have e:((gD aq s (dD s)).reverse.map (·.id)).Nodup:=by
  rw[List.map_reverse,pg];obtain⟨a,b⟩:=qh h;exact(List.reverse_perm _).nodup_iff.2 (RG h (λd c=>(b d).1 c) a.nodup)
 exact e.sublist ((List.filter_sublist.trans f).map _)
theorem JR{s:ar}(h:dm aq s)(i:ak):(eN (jh s).2 i).mergeSort ft=iU i (fJ aq s) []:=by
 obtain⟨a,b⟩:=BD i (fJ aq s) [] .nil;refine Gd (MV (T9 h i)) a λz=> ?_;rw[List.mem_mergeSort,b,ED h];unfold px;simp
theorem Ea: ∀(l:List ay) (i:ak),nw l i=l.find? λx=>decide (x.id=i)
 |[],_=>rfl
 |x::l,i=>by
  rw[nw,List.find?_cons,Ea l i];by_cases h:x.id=i
  .rw[if_pos h,decide_eq_true h]
  .rw[if_neg h,decide_eq_false h]
theorem J5{α β:Type}[DecidableEq α]{g:α->Option β}{k:α}: ∀{l:List α},(∀d∈l,d≠k->g d=none)->l.findSome? g=if k∈l then g k else none
 |[],_=>rfl
 |d::l,h=>by
  have c:=J5 λx i=>h x (er d i);rw[List.findSome?_cons];by_cases a:d=k
  .subst a;rw[if_pos (by simp)];cases hg:g d with
   |some b=>rfl
   |none=>
    dsimp only;rw[c,hg];simp
  .rw[h d (by simp) a];dsimp only;rw[c];have:k∈d::l↔k∈l:=by rw[bF];exact⟨λf=>f.resolve_left λe=>a e.symm,.inr⟩
   simp only[this]
theorem IV{s:ar}(h:dm aq s)(i:ak):lG s i=nw (jL aq s) i:=by
 unfold lG jL;rw[Ea,pg,List.find?_flatMap,J5 (k:=i.p)]
 .by_cases hi:i.p∈b8 s
  .rw[if_pos hi,<-Gx h hi];obtain⟨q,f⟩:=Option.ne_none_iff_exists'.1 (λb=>oe.1 b hi);rw[f];rfl
  .rw[if_neg hi,oe.2 hi]
 .intro d a hne;rw[List.find?_eq_none];intro x g;obtain⟨j,c⟩:=fE g;rw[pL h a j x c,decide_eq_true_eq];intro e;exact hne (by rw[<-e])
theorem Ry{l:List ay}{i:ak}:(nw l i).isSome=true↔ ∃x∈l,x.id=i:=by
 rw[Ea,List.find?_isSome];constructor
 .rintro⟨x,a,h⟩;exact⟨x,a,by simpa using h⟩
 .rintro⟨x,a,h⟩;exact⟨x,a,by simpa using h⟩
theorem K6{s:ar}(h:dm aq s)(i:ak):eN (jh s).2 i=[]↔(iU i (fJ aq s) []).length=0:=by
 rw[<-JR h,lj];exact xD.symm
theorem a0N{s:ar}(h:dm aq s)(i:ak):qV s i=lB aq s i:=by
 unfold qV lB sM rn;rw[l6,nx,dW,decide_eq_true_eq,IV h,Ry,K6 h,bM];constructor
 .rintro⟨⟨x,b,rfl⟩,a⟩;exact⟨x,na.2 ⟨b,by simpa using a⟩,rfl⟩
 .rintro⟨x,b,rfl⟩;obtain⟨c,a⟩:=na.1 b;exact⟨⟨x,c,rfl⟩,by simpa using a⟩
def BE(s:ar)(i:ak):List ak:=if(lG s i).isSome=true then(eN (jh s).2 i).mergeSort ft else[]
theorem a0U{s:ar}(h:dm aq s)(i:ak):BE s i=BF aq s i:=by
 unfold BE BF;rw[IV h,JR h];cases nw (jL aq s) i<;>rfl
theorem Pw{s:ar}(h:dm aq s):oU s=jL aq s:=by
 unfold oU jL b8;rw[pg,List.flatMap_map];refine Ed λx a=> ?_;rw[iT h.sorted.nodup x a,eF,Ha];rw[(h.id x a).2];exact uE h x a
theorem a0Y{s:ar}(h:dm aq s):BI s=sM aq s:=by
 unfold BI pd sM rn;rw[Pw h];congr 1;refine List.filter_congr λx _=> ?_;rw[l6,decide_eq_true_eq,decide_eq_true_eq];exact K6 h x.id
theorem DI: ∀{l:List az} {own:List ay} {j:Nat} {x:ay},(eH l own).1[j]?=some x->own[j]?=some x\/ ∃c∈l,∃o,o.length<=j/\iG c o=0/\(x.over=[]\/x.over=c.over)
 |[],own,j,x,h=> .inl h
 |c::l,own,j,x,h=>by
  rw[eH]at h;by_cases b:fm c≠0
  .rw[if_pos b]at h;simp at h
  .rw[if_neg b]at h;by_cases a:iG c own≠0
   .rw[if_pos a]at h;simp at h
   .rw[if_neg a]at h;rcases DI h with h3|⟨y,h3,h4⟩
    .rw[jb]at h3;by_cases d:j<own.length
     .rw[if_pos d]at h3;exact .inl h3
     .rw[if_neg d]at h3;exact .inr ⟨c,by simp,own,by omega,by simpa using a,K9 c _ x (bR h3)⟩
    .exact .inr ⟨y,er _ h3,h4⟩
theorem ot{a b:Int}(h:c9 a b=0):a=0/\b=0:=by
 unfold c9 at h;by_cases k:a=0
 .rw[if_neg (by simpa using k)]at h;exact⟨k,h⟩
 .rw[if_pos k]at h;exact absurd h k
theorem BW{c:az}{own:List ay}: ∀{l:List ak},ou c own l=0-> ∀z∈l,allowed z own.length=true
 |[],_,z,b=>by cases b
 |y::l,h,z,b=>by
  rw[ou]at h;by_cases a:kS y own (ri c.kind c.file (kO own y))=0
  .rw[if_neg (by simpa using a)]at h;rcases bF.1 b with rfl|b
   .unfold kS at a;by_cases ha:allowed z own.length=true
    .exact ha
    .rw[if_pos (by simpa using ha)]at a;cases a
   .exact BW h z b
  .rw[if_pos a]at h;exact absurd h a
theorem KL{p:aU}{j:Nat}{a:ay}(h:(ew aq p).1[j]?=some a): ∀o∈a.over,(o.p=(bj aq p).1/\o.n<j)\/o.p∈bu p:=by
 intro o g;unfold ew at h;by_cases h0:(bj aq p).2≠0
 .rw[if_pos h0]at h;simp at h
 .have d:(bj aq p).2=0:=by simpa using h0
  rw[if_neg h0,dj,dy]at h;obtain⟨y,i,rfl⟩:=h;rw[uq]at g;obtain⟨z,e,rfl⟩:=bM.1 (((wz _ [] .nil).2 o).1 g|>.resolve_right (by simp));obtain⟨_,f⟩:=sG d;obtain⟨_,_,_,k,_⟩:=jx f;rw[k]at i;rcases DI i with h1|⟨c,hc,own,hl,hr,h1⟩
  .simp at h1
  .rcases h1 with h1|h1
   .rw[h1]at e;cases e
   .rw[h1]at e;have ha:=BW (ot (ot (ot (ot hr).2).2).2).1 z e;unfold allowed at ha;by_cases b:isZero z.p=true
    .rw[if_pos b,dW,decide_eq_true_eq,decide_eq_true_eq]at ha;refine .inl ?_;unfold whole;rw[if_pos ⟨b,ha.1⟩];exact⟨rfl,by have:=ha.2;show z.n<(j:Int);omega⟩
    .refine .inr ?_;unfold whole;rw[if_neg λl=>b l.1];exact Cl (yA aq d) c hc z (by unfold iV;simp[e]) (by simpa using b)
def Ak(L:List ay):Prop:=L.Pairwise (λy x=>y.id∉x.over)/\ ∀x∈L,x.id∉x.over
theorem EY{s:ar}(h:dm aq s){d:Dg}(f:d∈b8 s){j:Nat}{a:ay}(ha:(ew aq ((bh s d).getD .zero)).1[j]?=some a): ∀o∈a.over,(o.p=d/\o.n<j)\/ ∃x∈s,x.id=d/\o.p∈bu x.pat:=by
 obtain⟨x,c,rfl⟩:=bM.1 f;rw[iT h.sorted.nodup x c,eF]at ha;intro o g;rcases KL ha o g with⟨b,e⟩|b
 .exact .inl ⟨by rw[b,(h.id x c).2],e⟩
 .exact .inr ⟨x,c,rfl,b⟩
theorem Gl{s:ar}(h:dm aq s):Ak (gD aq s (dD s)).reverse:=by
 obtain⟨r,A⟩:=qh h;have c: ∀d∈dD s,d∈b8 s:=λd g=>(A d).1 g;constructor
 .rw[List.pairwise_reverse,pg,List.pairwise_flatMap];constructor
  .intro d g;refine s7.2 λi j hi p o hm=> ?_;have hb:=pL h (c d g) j _ (bQ p);rcases EY h (c d g) (bQ hi) _ hm with⟨_,k⟩|⟨x,f,hxd,k⟩
   .rw[hb]at k;dsimp only at k;omega
   .rw[hb]at k;dsimp only at k;rw[<-hxd]at k;exact uE h x f k
  .refine s7.2 λi j hi p o a ha b hb hm=> ?_;obtain⟨m,ha⟩:=fE ha;obtain⟨n,hb⟩:=fE hb;have l:=pL h (c _ (vr p)) n b hb;have v:=r.nodup;have hne:(dD s)[i]≠(dD s)[j]:=s7.1 r.nodup i j hi p o
   rcases EY h (c _ (vr hi)) ha _ hm with⟨k,_⟩|⟨x,f,hxd,k⟩
   .rw[l]at k;exact hne k.symm
   .rw[l]at k;dsimp only at k;obtain⟨y,u,w,_,B⟩:=r i _ (bQ hi);have z:=yC h.sorted.nodup x f y u (hxd.trans w.symm);subst z;obtain⟨q,t⟩:=fE (B _ k);rw[fL]at t;split at t
    .rename_i C;have:=r.inj t (bQ p);omega
    .cases t
 .intro x f hm;rw[vw,pg]at f;obtain⟨d,g,f⟩:=vu.1 f;obtain⟨m,f⟩:=fE f;have e:=pL h (c d g) m x f;rcases EY h (c d g) f _ hm with⟨_,k⟩|⟨y,u,hyd,k⟩
  .rw[e]at k;dsimp only at k;omega
  .rw[e]at k;dsimp only at k;rw[<-hyd]at k;exact uE h y u k
def GI(E:ay->Prop)(x:ay):Prop:= ∀y,E y->y.kind=7->x.id∉y.over
theorem Iz: ∀(L out:List ay),∀x∈out,x∈iA L out
 |[],out,x,h=>h
 |z::L,out,x,h=>by
  rw[iA];refine Iz L _ x ?_;split
  .exact er _ h
  .exact h
theorem B9: ∀(L out:List ay),Ak L-> ∀x,x∈iA L out↔x∈out\/(x∈L/\GI (· ∈iA L out) x)
 |[],out,_,x=>by simp[iA]
 |z::L,out,hT,x=>by
  obtain⟨h,i⟩:=gX.1 hT.1;have f:Ak L:=⟨i,λy a=>hT.2 y (er _ a)⟩
  rw[iA];have d:=B9 L (if mC out z.id=true then z::out else out) f;have c:=Iz L (if mC out z.id=true then z::out else out);obtain⟨E,g⟩: ∃E,E=iA L (if mC out z.id=true then z::out else out):=⟨_,rfl⟩
  rw[<-g]at d c⊢;clear g;constructor
  .intro j;rcases(d x).1 j with h3|h3
   .by_cases b:mC out z.id=true
    .rw[if_pos b]at h3;rcases bF.1 h3 with rfl|h3
     .refine .inr ⟨by simp,λy a e hm=> ?_⟩;rcases(d y).1 a with h4|h4
      .rw[if_pos b]at h4;rcases bF.1 h4 with rfl|h4
       .exact hT.2 _ (by simp) hm
       .exact(Ec _ _).1 b ⟨y,h4,e,hm⟩
      .exact h y h4.1 hm
     .exact .inl h3
    .rw[if_neg b]at h3;exact .inl h3
   .exact .inr ⟨er _ h3.1,h3.2⟩
  .rintro(h3|⟨h3,h4⟩)
   .refine c x ?_;split
    .exact er _ h3
    .exact h3
   .rcases bF.1 h3 with rfl|h3
    .refine c x ?_;rw[if_pos]
     .simp
     .refine(Ec _ _).2 ?_;rintro⟨y,a,e,hm⟩;refine h4 y (c y ?_) e hm;split
      .exact er _ a
      .exact a
    .exact(d x).2 (.inr ⟨h3,h4⟩)
theorem IA{L:List ay}(f:Ak L){P C:ay->Prop}(q: ∀x∈L,C x-> ∀y∈L,x.id∈y.over->C y)(r: ∀x∈L,C x->(P x↔ ∀y∈L,P y->y.kind=7->x.id∉y.over)): ∀x∈L,C x->(P x↔x∈iA L []):=by
 have key: ∀(n i:Nat) (x:ay),i<n->L[i]?=some x->C x->(P x↔x∈iA L []):=by
  intro n
  induction n with
  |zero=>intro i x hi;omega
  |succ n u=>
   intro i x hi c hc;have a:=bR c;have hb: ∀y∈L,x.id∈y.over->(P y↔y∈iA L []):=by
    intro y b hm;obtain⟨j,g⟩:=fE b;have t:j<i:=by
     apply fX;intro s;by_cases e:i=j
     .subst e;rw[c]at g;obtain rfl:=aJ g;exact f.2 _ a hm
     .obtain⟨l,o⟩:=aV.1 c;obtain⟨m,p⟩:=aV.1 g;have:=s7.1 f.1 i j l m a8;rw[o,p]at this;exact this hm
    exact u j y a8 g (q x a hc y b hm)
   rw[r x a hc,B9 L [] f x];constructor
   .intro h;refine .inr ⟨a,λy b k hm=> ?_⟩;have d:y∈L:=((B9 L [] f y).1 b).elim (λh=>by cases h) (·.1);exact h y d ((hb y d hm).2 b) k hm
   .rintro(h|⟨_,h⟩)
    .cases h
    .intro y b hp k hm;exact h y ((hb y b hm).1 hp) k hm
 intro x c hc;obtain⟨i,hi⟩:=fE c;exact key (i+1) i x a8 hi hc
def xk(l:List UInt8):Nat:=l.foldl (λa b=>a*10+(b.toNat-48)) 0
theorem ZP(l:List UInt8)(b:UInt8):xk (l++[b])=xk l*10+(b.toNat-48):=by simp[xk]
theorem w9(n:Nat):(nn n).toNat=48+n % 10:=by
 unfold nn;rw[UInt8.toNat_ofNat'];omega
theorem vh: ∀f n:Nat,n<10^(f+1)->xk (gB f n)=n
 |0,n,h=>by
  rw[gB];show 0*10+((nn n).toNat-48)=n;rw[w9];have:n<10:=by simpa using h
  omega
 |f+1,n,h=>by
  rw[gB];by_cases a:n<10
  .rw[if_pos a];show 0*10+((nn n).toNat-48)=n;rw[w9];omega
  .rw[if_neg a,ZP,vh f (n/10) a8,w9];omega
theorem w6: ∀f n:Nat,∀b∈gB f n,48<=b.toNat/\b.toNat<=57
 |0,n,b,h=>by
  rw[gB,jH]at h;subst h;rw[w9];omega
 |f+1,n,b,h=>by
  rw[gB]at h;by_cases a:n<10
  .rw[if_pos a,jH]at h;subst h;rw[w9];omega
  .rw[if_neg a,fk,jH]at h;rcases h with h|h
   .exact w6 f _ b h
   .subst h;rw[w9];omega
theorem B4: ∀f n:Nat,∃b t,gB f n=b::t
 |0,n=>⟨_,_,rfl⟩
 |f+1,n=>by
  rw[gB];by_cases a:n<10
  .rw[if_pos a];exact⟨_,_,rfl⟩
  .rw[if_neg a];obtain⟨b,t,h⟩:=B4 f (n/10);rw[h];exact⟨_,_,rfl⟩
theorem w7(n:Nat):(dec (n:Int)).data.toList=gB 19 n:=by
 unfold dec;rw[if_neg a8,tJ];rfl
theorem MZ: ∀{a b r r':List UInt8},(∀x∈a,x≠58)->(∀x∈b,x≠58)->a++58::r=b++58::r'->a=b/\r=r'
 |[],[],r,r',_,_,h=>⟨rfl,by simpa using h⟩
 |[],y::b,r,r',_,h2,h=>by
  rw[bt,gb]at h;injection h with h3 _
  exact absurd h3.symm (h2 y (by simp))
 |x::a,[],r,r',h1,_,h=>by
  rw[bt,gb]at h;injection h with h3 _
  exact absurd h3 (h1 x (by simp))
 |x::a,y::b,r,r',h1,h2,h=>by
  rw[gb,gb]at h;injection h with h3 h4
  obtain⟨d,e⟩:=MZ (λz c=>h1 z (er _ c)) (λz c=>h2 z (er _ c)) h4;exact⟨by rw[h3,d],e⟩
theorem Ic(n:Nat): ∀x∈(dec (n:Int)).data.toList,x≠58:=by
 intro x a e;rw[w7]at a;have:=w6 _ _ x a;rw[e]at this;simp at this
theorem QP{m n:Nat}(hm:m<10^20)(a:n<10^20)(h:(dec (m:Int)).data.toList=(dec (n:Int)).data.toList):m=n:=by
 rw[w7,w7]at h;rw[<-vh 19 m hm,h,vh 19 n a]
theorem N6{a b:bb}(h:a.data.toList=b.data.toList):a=b:=by
 obtain⟨⟨x⟩⟩:=a;obtain⟨⟨y⟩⟩:=b;have:x=y:=h;rw[this]
theorem IC: ∀{d:Nat} {x:Sx},eX d x-> ∃b t,jf d x=b::t/\b≠41
 |0,_,h=>h.elim
 |d+1,.mk b a l,h=>by
  rcases h with⟨rfl,rfl,h⟩|⟨rfl,rfl,h⟩
  .rw[wa,w7];obtain⟨b,t,e⟩:=B4 19 a.size;refine⟨b,_,by rw[e];rfl,λc=> ?_⟩;have:=w6 19 a.size b (by rw[e];simp);rw[c]at this;simp at this
  .rw[uk];exact⟨_,_,rfl,by decide⟩
theorem ID: ∀{d:Nat} {x y:Sx} {r r':List UInt8},eX d x->eX d y->jf d x++r=jf d y++r'->x=y/\r=r'
 |0,_,_,_,_,h,_,_=>h.elim
 |d+1,.mk b a l,.mk b' a' l',r,r',hx,hy,h=>by
  have p: ∀(l m:List Sx) (r r':List UInt8),(∀x∈l,eX d x)->(∀x∈m,eX d x)->l.flatMap (jf d)++41::r=m.flatMap (jf d)++41::r'->l=m/\r=r':=by
   intro l
   induction l with
   |nil=>
    intro m r r' f g h;cases m with
    |nil=>exact⟨rfl,by simpa using h⟩
    |cons y m=>
     obtain⟨b,t,e,hb⟩:=IC (g y (by simp));rw[jt,e]at h;simp only[vq,bt,gb]at h;injection h with c _
     exact absurd c.symm hb
   |cons x l q=>
    intro m r r' f g h;cases m with
    |nil=>
     obtain⟨b,t,e,hb⟩:=IC (f x (by simp));rw[jt,e]at h;simp only[vq,bt,gb]at h;injection h with c _
     exact absurd c hb
    |cons y m=>
     rw[jt,jt,bk,bk]at h;obtain⟨c,i⟩:=ID (f x (by simp)) (g y (by simp)) h;obtain⟨j,n⟩:=q m r r' (λz k=>f z (er _ k)) (λz k=>g z (er _ k)) i;exact⟨by rw[c,j],n⟩
  rcases hx with⟨rfl,rfl,ha⟩|⟨rfl,rfl,hx⟩<;>rcases hy with⟨rfl,rfl,o⟩|⟨rfl,rfl,hy⟩
  .rw[wa,wa,bk,bk,gb,gb]at h;obtain⟨f,g⟩:=MZ (Ic _) (Ic _) h;have c:=QP a8 a8 f;obtain⟨i,j⟩:=List.append_inj g (by rw[ic,ic];exact c);exact⟨by rw[N6 i],j⟩
  .rw[wa,uk,w7]at h;obtain⟨b,t,e⟩:=B4 19 a.size;have:=w6 19 a.size b (by rw[e];simp);rw[e]at h;simp only[gb]at h;injection h with c _
   rw[c]at this;simp at this
  .rw[wa,uk,w7]at h;obtain⟨b,t,e⟩:=B4 19 a'.size;have:=w6 19 a'.size b (by rw[e];simp);rw[e]at h;simp only[gb]at h;injection h with c _
   rw[<-c]at this;simp at this
  .rw[uk,uk,gb,gb,bk,bk]at h;injection h with _ h
   obtain⟨f,g⟩:=p l l' r r' hx hy (by simpa using h);exact⟨by rw[f],g⟩
theorem R2{x y:Sx}(b:eX 6 x)(c:eX 6 y)(h:jM x=jM y):x=y:=by
 have a:jf 6 x++[]=jf 6 y++[]:=by
  have:=congrArg (λs:bb=>s.data.toList) h;simpa[jf,jM]using this
 exact(ID b c a).1
end Go.Proofs.Q
