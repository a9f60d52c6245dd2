/- Lemmas. -/
import Derived.Test.YtikhfhjohjfamaaGreatDoorPBV
set_option linter.unusedVariables false
set_option linter.unusedSimpArgs false
set_option maxRecDepth 100000
namespace Go.Proofs.Q
open Go Go.Bb Go.RowKit Go.Proofs.Lg
open Go.Ab (D RD)
theorem Aq{p:aU}(d:(bj aq p).2=0){k:Nat}{a:ay}(h:(ew aq p).1[k]?=some a):
  ∃e,(eH p.changes []).1[k]?=some e/\a.kind=e.kind/\(∀o,o∈a.over↔ ∃u∈e.over,o=whole u (bj aq p).1)/\ ∀u∈e.over,(isZero u.p=true/\0<=u.n)\/u.p∈bu p:=by
 unfold ew at h;rw[if_neg (by simpa using d),dj,dy]at h;obtain⟨e,i,rfl⟩:=h;obtain⟨_,g⟩:=sG d;obtain⟨_,_,_,l,_⟩:=jx g;rw[l]at i;refine⟨e,i,?_,λo=> ?_,λu b=> ?_⟩
 .rw[uq];unfold k9;dsimp only
  repeat' split
  all_goals rfl
 .rw[uq];show o∈gO (e.over.map (whole · _)) []↔_;rw[(wz _ [] .nil).2 o,bM];constructor
  .rintro(⟨u,b,rfl⟩|h)
   .exact⟨u,b,rfl⟩
   .cases h
  .rintro⟨u,b,rfl⟩;exact .inl ⟨u,b,rfl⟩
 .rcases DI i with h1|⟨c,hc,own,hl,hr,h1⟩
  .simp at h1
  .rcases h1 with h1|h1
   .rw[h1]at b;cases b
   .rw[h1]at b;have f:=BW (ot (ot (ot (ot hr).2).2).2).1 u b;unfold allowed at f;by_cases j:isZero u.p=true
    .rw[if_pos j,dW,decide_eq_true_eq,decide_eq_true_eq]at f;exact .inl ⟨j,f.1⟩
    .exact .inr (Cl (yA aq d) c hc u (by unfold iV;simp[b]) (by simpa using j))
theorem As{p:aU}(a:(bj aq p).2=0):(ew aq p).1.length=(eH p.changes []).1.length:=by
 obtain⟨_,b⟩:=sG a;obtain⟨_,_,_,c,_⟩:=jx b;unfold ew;rw[if_neg (by simpa using a),aM,c]
theorem jG.at_id{s t:ar}{p:aU}{d:Dg}(g:jG s p t d){j:Nat}{x:ay}(h:(ew aq p).1[j]?=some x):x.id=⟨d,j⟩:=by
 have a:=(g.mem ⟨d,p⟩).2 (.inl rfl);exact pL g.w (eR (f:=bD.id) a) j x (by rw[iT g.w.sorted.nodup ⟨d,p⟩ a,eF];exact h)
theorem jG.valid{s t:ar}{p:aU}{d:Dg}(g:jG s p t d):(bj aq p).2=0:=(g.w.id ⟨d,p⟩ ((g.mem _).2 (.inl rfl))).1
theorem NB{u o:ak}{b d:Dg}(a:o.p≠d)(h:o=whole u d):o=whole u b:=by
 unfold whole at h⊢;split at h
 .exact absurd (congrArg ak.p h) a
 .rename_i c;rw[if_neg c];exact h
def tX(r:ar)(p q:aU)(z w:ay):Prop:=(eJ r z/\w=z)\/ ∃k:Nat,(ew aq q).1[k]?=some z/\(ew aq p).1[k]?=some w
section
variable {r s t:ar} {p q:aU} {b d:Dg} (g:jG r p s b) (k:jG r q t d) (hc:q.changes=p.changes)
include g k hc
theorem Me{z w:ay}(h:tX r p q z w):z.kind=w.kind:=by
 rcases h with⟨_,rfl⟩|⟨m,hz,hw⟩
 .rfl
 .obtain⟨e,b,c,_⟩:=Aq k.valid hz;obtain⟨f,a,d,_⟩:=Aq g.valid hw;rw[hc,a]at b;obtain rfl:=aJ b;rw[c,d]
theorem Yl(t: ∀e∈bu p,e∈b8 r){z w y v:ay}(x:tX r p q z w)(F:tX r p q y v):z.id∈y.over↔w.id∈v.over:=by
 rcases F with⟨o,rfl⟩|⟨m,o,hv⟩
 .rcases x with⟨i,rfl⟩|⟨j,i,hw⟩
  .exact dK
  .rw[k.at_id i,g.at_id hw];exact⟨λh=>absurd (En g.v o h) k.new,λh=>absurd (En g.v o h) g.new⟩
 .obtain⟨e,C,_,A,_⟩:=Aq k.valid o;obtain⟨E,s,_,B,G⟩:=Aq g.valid hv;rw[hc,s]at C;obtain rfl:=aJ C;rw[k.id]at A;rw[g.id]at B;rw[A,B];rcases x with⟨i,rfl⟩|⟨j,i,hw⟩
  .have D:=JC g.v i;constructor
   .rintro⟨u,c,h⟩;exact⟨u,c,NB (λe=>k.new (by rw[<-e];exact D)) h⟩
   .rintro⟨u,c,h⟩;exact⟨u,c,NB (λe=>g.new (by rw[<-e];exact D)) h⟩
  .rw[k.at_id i,g.at_id hw];have l: ∀u∈E.over,(⟨d,(j:Int)⟩:ak)=whole u d↔(⟨b,(j:Int)⟩:ak)=whole u b:=by
    intro u c;unfold whole;by_cases a:isZero u.p=true/\0<=u.n
    .rw[if_pos a,if_pos a];simp
    .rw[if_neg a,if_neg a];have f:=t _ ((G u c).resolve_left a);exact⟨λh=>absurd (by rw[<-h]at f;exact f) k.new,λh=>absurd (by rw[<-h]at f;exact f) g.new⟩
   constructor
   .rintro⟨u,c,h⟩;exact⟨u,c,(l u c).1 h⟩
   .rintro⟨u,c,h⟩;exact⟨u,c,(l u c).2 h⟩
theorem Ym{z:ay}(c:eJ t z): ∃w,eJ s w/\tX r p q z w:=by
 rcases(k.at z).1 c with h|h
 .exact⟨z,(g.at z).2 (.inl h),.inl ⟨h,rfl⟩⟩
 .obtain⟨j,b⟩:=fE h;have a:=(aV.1 b).1;rw[As k.valid,hc,<-As g.valid]at a;exact⟨_,(g.at _).2 (.inr (vr a)),.inr ⟨j,b,bQ a⟩⟩
theorem FN{w:ay}(i:eJ s w): ∃z,eJ t z/\tX r p q z w/\z.id=if w.id.p=b then⟨d,w.id.n⟩else w.id:=by
 rcases(g.at w).1 i with h|h
 .exact⟨w,(k.at w).2 (.inl h),.inl ⟨h,rfl⟩,by rw[if_neg λe=>g.new (by rw[<-e];exact JC g.v h)]⟩
 .obtain⟨j,a⟩:=fE h;have c:=(aV.1 a).1;rw[As g.valid,<-hc,<-As k.valid]at c;have f:=bQ c;exact⟨_,(k.at _).2 (.inr (vr c)),.inr ⟨j,f,a⟩,by rw[k.at_id f,g.at_id a,if_pos rfl]⟩
theorem Pm(A: ∀e∈bu p,e∈b8 r){w:ay}(l:eJ s w):lB aq s w.id=lB aq t (if w.id.p=b then⟨d,w.id.n⟩else w.id):=by
 have m:=λ{z w y v:ay}=>Yl g k hc A (z:=z) (w:=w) (y:=y) (v:=v);have u: ∀x,x∈(gD aq t (dD t)).reverse↔eJ t x:=λx=>by rw[vw];exact EK k.w x
 have D: ∀z,eJ t z->((∃w,tX r p q z w/\w∈fJ aq s)↔z∈fJ aq t):=by
  intro z B;refine IA (L:=(gD aq t (dD t)).reverse) (Gl k.w) (P:=λz=> ∃w,tX r p q z w/\w∈fJ aq s) (C:=λ_=>True) (λ_ _ _ _ _ _=>trivial) (λx E _=> ?_) z ((u z).2 B) trivial;constructor
  .rintro⟨w,i,l⟩ y j ⟨v,f,a⟩ o c;exact((rb g.w w).1 l).2 v a (by rw[<-Me g k hc f];exact o) ((m i f).1 c)
  .intro h;obtain⟨w,l,i⟩:=Ym g k hc ((u x).1 E);refine⟨w,i,(rb g.w w).2 ⟨l,λv a o c=> ?_⟩⟩;obtain⟨y,j,f,_⟩:=FN g k hc ((rb g.w v).1 a).1;exact h y ((u y).2 j) ⟨v,f,a⟩ (by rw[Me g k hc f];exact o) ((m i f).2 c)
 obtain⟨z,B,i,e⟩:=FN g k hc l;rw[<-e,l6,xS g.w,xS k.w];constructor
 .rintro⟨_,h⟩;refine⟨⟨z,B,rfl⟩,λy j c=> ?_⟩;obtain⟨v,f,a⟩:=(D y ((rb k.w y).1 j).1).2 j;exact h v a ((m i f).1 c)
 .rintro⟨_,h⟩;refine⟨⟨w,l,rfl⟩,λv a c=> ?_⟩;obtain⟨y,j,f,_⟩:=FN g k hc ((rb g.w v).1 a).1;exact h y ((D y j).1 ⟨v,f,a⟩) ((m i f).2 c)
end
theorem jG.get{s t:ar}{p:aU}{d e:Dg}(k:jG s p t d)(b:e∈b8 s):bh s e=bh t e:=by
 obtain⟨x,a,rfl⟩:=bM.1 b;rw[iT k.v.sorted.nodup x a,iT k.w.sorted.nodup x ((k.mem x).2 (.inr a))]
theorem S4{r:ar}{p:aU}(h:gl aq r=0)(c:(eZ aq r p).2.2=0):gl aq (eZ aq r p).1=0:=by
 have k:=Bu (mw aq h) c;obtain⟨f,l,g,i,m,d⟩:=u7 aq c;obtain⟨_,j⟩:=DM aq h;refine HP aq (by rw[d];dsimp only;rw[yZ];omega) k.w.id k.w.sorted k.w.needs (DZ k.w) λx a=> ?_;rcases(k.mem x).1 a with rfl|a
 .dsimp only;rw[<-Cm aq f λe b=>k.get (g e b),d];exact i
 .rw[<-Cm aq (k.v.id x a).1 λe b=>k.get (k.v.needs x a e b)];exact j x a
theorem Po{s:ar}(q:gl aq s=0){x:bD}(u:x∈s)(m:Meta){t:ar}{d:Dg}{e:Int}(a:kF s x.id m=(t,d,e))(z:e=0):
  gl aq t=0/\t.length=s.length/\bh t d=some (fI x.pat m)/\(∀y∈t,y=⟨d,fI x.pat m⟩\/y∈s)/\ ∀w,eJ s w->lB aq s w.id=lB aq t (if w.id.p=x.id then⟨d,w.id.n⟩else w.id):=by
 have B:=mw aq q;have A:bh s x.id=some x.pat:=iT B.sorted.nodup x u;rw[Dq q,A,eF]at a;subst z;by_cases j:(eT s x.id).2=0
 .rw[if_neg (by simpa using j)]at a;obtain⟨l,f,b⟩:=(Ku aq q u).2 j;obtain⟨r,o⟩: ∃r,r=(eT s x.id).1:=⟨_,rfl⟩
  rw[<-o]at a l f b;have g:=Bu (mw aq l) (p:=x.pat) (by rw[f]);have k:=Bu (mw aq l) (p:=fI x.pat m) (by rw[a]);have c:=S4 l (p:=fI x.pat m) (by rw[a]);have v:=(u7 aq (s:=r) (p:=x.pat) (by rw[f])).2.2.1;have h:=(u7 aq (s:=r) (p:=x.pat) (by rw[f])).2.2.2.2.2
  have i:=(u7 aq (s:=r) (p:=fI x.pat m) (by rw[a])).2.2.2.2.2;rw[f]at g h;rw[a]at k c i;dsimp only at g k c;injection h with h _
  injection i with i _
  refine⟨c,by rw[h,i,yZ,yZ],?_,λy D=>((k.mem y).1 D).imp id (b y),λw C=>Pm g k rfl v C⟩;exact iT k.w.sorted.nodup ⟨d,fI x.pat m⟩ ((k.mem _).2 (.inl rfl))
 .rw[if_pos j]at a;injection a with _ a
  injection a with _ a
  exact absurd a j
theorem H6{s:ar}(g:gl aq s=0)(b:Dg)(m:Meta){t:ar}{d:Dg}{e:Int}(a:kF s b m=(t,d,e))(f:e≠0):t=[]:=by
 rw[Dq g]at a;by_cases c:(eT s b).2=0
 .rw[if_neg (by simpa using c)]at a;unfold eZ at a
  (repeat' split at a)<;>injection a with h1 h2<;>injection h2 with h2 h3
  all_goals first|exact h1.symm|exact absurd h3.symm f
 .rw[if_pos c]at a;injection a with h1
  exact h1.symm
theorem Pn{s:ar}(j:gl aq s=0)(b:Dg)(m:Meta): ∀x∈(kF s b m).1,∃y∈s,x.pat.changes=y.pat.changes:=by
 intro x c;obtain⟨t,d,e,a⟩: ∃t d e,kF s b m=(t,d,e):=⟨_,_,_,rfl⟩
 rw[a]at c;by_cases i:e=0
 .cases f:bh s b with
  |none=>unfold kF at a;rw[f]at a;injection a with h1 _;rw[<-h1]at c;cases c
  |some p=>
   have g:b∈b8 s:=fX λh=>by rw[oe.2 h]at f;cases f
   obtain⟨y,k,rfl⟩:=bM.1 g;rcases(Po j k m a i).2.2.2.1 x c with rfl|h
   .exact⟨y,k,rfl⟩
   .exact⟨x,h,rfl⟩
 .rw[H6 j b m a i]at c;cases c
theorem Pk{s:ar}(h:gl aq s=0)(d:Dg)(m:Meta):Ap s d m=kF s d m:=by
 rw[Dq h];unfold Ap;by_cases c:(eT s d).2≠0
 .rw[if_pos c,if_pos c]
 .rw[if_neg c,if_neg c];by_cases f:(eZ aq (eT s d).1 (fI ((bh s d).getD .zero) m)).2.2≠0
  .rw[if_pos f];obtain⟨a,b,e,g⟩: ∃a b e,eZ aq (eT s d).1 (fI ((bh s d).getD .zero) m)=(a,b,e):=⟨_,_,_,rfl⟩
   rw[g]at f⊢;unfold eZ at g
   (repeat' split at g)<;>injection g with h1 h2<;>injection h2 with h2 h3
   all_goals first|(subst h1;subst h2;rfl)|exact absurd h3.symm f
  .rw[if_neg f]
end Go.Proofs.Q
namespace Go.Proofs.Q
open Go Go.Bb Go.RowKit Go.Proofs.Lg
open Go.Ab (D RD)
theorem Mj{d:Dg}{n:Nat}{m:Meta}(e:m.author.size<=maxLen)(f:m.message.size<=maxLen)(h:n<=400):bS (lW d n m)/\db (lW d n m):=by
 have j:(1000:Nat)<=maxLen:=by decide
 have g:mg (lW d n m):=by
  refine⟨e,f,?_,?_,λc a=> ?_⟩
  .show 0<=maxLen;omega
  .show 1<=maxLen;omega
  .obtain rfl:=jH.1 a;refine⟨?_,?_,?_,λs i=>(by cases i),?_⟩
   .show 0<=maxLen;omega
   .show 0<=maxLen;omega
   .show 0<=maxLen;omega
   .show(fV d n).length<=maxLen;rw[wK];omega
 refine⟨Dh g (b:=1220) (λc a=> ?_) (by show 1220*1<=19000;omega),⟨by show 1<=40;omega,λc a=> ?_⟩⟩
 .obtain rfl:=jH.1 a;show 20+0+3*(fV d n).length<=1220;rw[wK];omega
 .obtain rfl:=jH.1 a;exact⟨by show 0<=1000;omega,by show(fV d n).length<=100000;rw[wK];omega⟩
theorem DX{p:aU}{m:Meta}(h:mg p)(i:lH p=false)(f:m.author.size<=maxLen)(g:m.message.size<=maxLen):bS (fI p m)/\db (fI p m)/\oD (fI p m).changes:=by
 obtain⟨_,j,e⟩:=Bs i;have d:mg (fI p m):=⟨f,g,h.deps,h.changes,h.chg⟩
 refine⟨Dh d (b:=180) (λc a=>by have:=e c a;omega) (by show 180*p.changes.length<=19000;omega),⟨by show p.changes.length<=40;omega,λc a=>by have:=e c a;omega⟩,D8 d⟩
theorem O9:mg .zero:=⟨by decide,by decide,by decide,by decide,λc a=>(by cases a)⟩
theorem RF{s:ar}(h:u0 s)(a:o8 aq s=true):gl aq s=0/\ ∀x∈s,mg x.pat/\lH x.pat=false/\(bj aq x.pat).2=0:=by
 unfold o8 at a;simp only[dW,rY,decide_eq_true_eq]at a;have c:=mw aq a.2;exact⟨a.2,λx b=>⟨h.pat x b,(Bt a.1).2 x b,(c.id x b).1⟩⟩
theorem Jo{s:ar}{d:Dg}{p:aU}(h:bh s d=some p): ∃x∈s,x.id=d/\x.pat=p:=by
 induction s with
 |nil=>cases h
 |cons y s b=>
  unfold bh at h;split at h
  .rename_i e;exact⟨y,by simp,by first|exact e|exact e.symm,aJ h⟩
  .obtain⟨x,a,k⟩:=b h;exact⟨x,er _ a,k⟩
end Go.Proofs.Q
namespace Go.Proofs.Q
open Go Go.Bb Go.Proofs.Lg
open Go.Ab (D RD)
def av:List Sh:=[.str,.str,.int .i64]
theorem aK{b:List D}(h:ShsOk av b): ∃m:Meta,b=eS m/\m.author.size<=maxLen/\m.message.size<=maxLen:=by
 obtain⟨l,p,rfl,f,c⟩:=h.cons;obtain⟨author,rfl,j⟩:=f.str_inv;obtain⟨n,q,rfl,g,d⟩:=c.cons;obtain⟨message,rfl,k⟩:=g.str_inv;obtain⟨o,r,rfl,i,e⟩:=d.cons;obtain⟨a,rfl,_⟩:=i.int_inv;obtain rfl:=e.nil;exact⟨⟨author,message,a⟩,rfl,j,k⟩
end Go.Proofs.Q
