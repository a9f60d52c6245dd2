/- Lemmas. -/
import Derived.Test.YtikhfhjohjfamaaGreatDoorPBA
set_option linter.unusedVariables false
set_option linter.unusedSimpArgs false
set_option maxRecDepth 100000
namespace Go.Proofs.Q
open Go Go.Bb Go.RowKit Go.Proofs.Lg
open Go.Ab (D RD)
theorem fzc1(z:List AV){l:List AV}(e:z=l:=by conv=>lhs;cbv): ∀a x,CI.clr a l x=.clr a z x:=by subst e;intros;rfl
theorem mr(L:List Dg):(dx L).length=L.length*32:=by rw[ud,aM,Jb]
theorem vK(A B:List Dg):dx (A++B)=dx A++dx B:=by simp only[ud,fF,tS]
theorem vL(d:Dg):dx [d]=(au d).map .d:=by simp[ud]
theorem DC(L:List Dg)(n:Nat)(h:n<=L.length):(dx L).take (n*32)=dx (L.take n):=by
 conv=>lhs;rw[<-jV n L,vK]
 rw[ij (by rw[mr,cC];omega),dL (by rw[mr,cC];omega)]
theorem Hy(L:List Dg)(n:Nat)(h:n<=L.length):(dx L).drop (n*32)=dx (L.drop n):=by
 conv=>lhs;rw[<-jV n L,vK]
 rw[iL,iM (by rw[mr,cC];omega),bt,mr,cC,qO h,jc,ky]
theorem xX{L:List Dg}{k:Nat}{d:Dg}(h:L[k]?=some d):((dx L).drop (k*32)).take 32=(au d).map .d:=by
 obtain⟨hk,rfl⟩:=aV.1 h;rw[Hy L k a8,lh hk];have:=DC (L[k]::L.drop (k+1)) 1 (by rw[aY];omega);rw[qP]at this;rw[this,jW,tW,vL]
theorem Q4{L:List Dg}{k:Nat}(hk:k<L.length)(d:Dg):ba (dx L) (k*32) 32 ((au d).map .d)=some (dx (L.set k d)):=by
 unfold ba;rw[if_pos ⟨by rw[aM,b9],by rw[mr];omega⟩,DC L k a8,show k*32+32=(k+1)*32 by omega,Hy L (k+1) a8,<-vL,<-vK,<-vK];congr 2;rw[De,if_pos hk];simp
theorem DO{α:Type}{sz:Nat}: ∀(rows:List (List α)),(∀r∈rows,r.length=sz)->chunk sz rows.length rows.flatten=rows
 |[],_=>rfl
 |r::rows,h=>by
  have a:=h r (by simp);show(r::rows).flatten.take sz::chunk sz rows.length ((r::rows).flatten.drop sz)=_;rw[gG,ij a8,dL a8,iL,iM a8,bt,a,jc,ky,DO rows λx b=>h x (by simp[b])]
theorem xZ(L:List Dg):chunk 32 L.length ((L.map au).flatten)=L.map au:=by
 have:=DO (L.map au) λr a=>by obtain⟨x,_,rfl⟩:=bM.1 a;exact b9 x
 rw[aM]at this;exact this
theorem EJ(s:List aa)(L:List Dg):dw (bE s 4) (dx L)=some ((L.map au).flatten):=by
 rw[ud];exact uj s 3 _
def dJ:List Dg->List Dg
 |x::y::r=>if x=y then dJ (y::r)else x::dJ (y::r)
 |l=>l
theorem DQ: ∀{l:List Dg},(∀j,j+1<l.length->l[j]? ≠l[j+1]?)->dJ l=l
 |[],_=>rfl
 |[x],_=>rfl
 |x::y::r,h=>by
  rw[dJ,if_neg (by have:=h 0 (by simp);simpa using this),DQ λj a=>by have:=h (j+1) (by simpa using a);simpa using this]
theorem HX: ∀(A:List Dg) (y x:Dg),dJ (A++[y]++[x])=if x=y then dJ (A++[y])else dJ (A++[y])++[x]
 |[],y,x=>by
  show dJ [y,x]=_;by_cases h:x=y
  .subst h;simp[dJ]
  .rw[if_neg h,dJ,if_neg (Ne.symm h)];rfl
 |a::A,y,x=>by
  have d:=HX A y x;cases A with
  |nil=>
   have c:dJ (y::[x])=if x=y then dJ [y]else dJ [y]++[x]:=d;show(if a=y then dJ (y::[x])else a::dJ (y::[x]))=if x=y then(if a=y then dJ [y]else a::dJ [y])else(if a=y then dJ [y]else a::dJ [y])++[x];rw[c];split<;>split<;>rfl
  |cons b A=>
   have c:dJ (b::(A++[y]++[x]))=if x=y then dJ (b::(A++[y]))else dJ (b::(A++[y]))++[x]:=d;show(if a=b then dJ (b::(A++[y]++[x]))else a::dJ (b::(A++[y]++[x])))=if x=y then(if a=b then dJ (b::(A++[y]))else a::dJ (b::(A++[y])))else(if a=b then dJ (b::(A++[y]))else a::dJ (b::(A++[y])))++[x];rw[c];split<;>split<;>rfl
theorem HZ{l:List Dg}{p:Nat}{y x:Dg}(c:l[p]?=some y)(b:l[p+1]?=some x):dJ (l.take (p+2))=if x=y then dJ (l.take (p+1))else dJ (l.take (p+1))++[x]:=by
 have a:l.take (p+1)=l.take p++[y]:=by rw[s9 (aV.1 c).1];congr 2;exact(aV.1 c).2
 have d:l.take (p+2)=l.take p++[y]++[x]:=by rw[s9 (aV.1 b).1,a];congr 2;exact(aV.1 b).2
 rw[a,d,HX]
set_option maxHeartbeats 2000000 in
theorem QA{s:List aa}{i:Nat}{l:List Dg}(E:s[i]?=some (.vec 30 32 (dx l)))(hn:l.length<=1000000):bs Tryz.prog 265 [.vec i l.length 32] s λd s'=>bE s' 5 d=some (.sl 32 ((dJ l).map au)):=by
 have A:=mr l;have hi:=(aV.1 E).1;refine cz Tryz.f265 ?_ [] [[0,3],[5,3,4,0]];simp only[fzc1 rT];by_cases h2:l.length<2
 .have V:decide ((l.length:Int)<2)=true:=by simp;omega
  have hc:dJ l=l:=by
   match l,h2 with
   |[],_=>rfl
   |[x],_=>rfl
  rw[hc];exact bL (ga @V (ga @E (ga @A (ga @EJ (ga @xZ @wj))))) trivial
 have V:decide ((l.length:Int)<2)=false:=by simp;omega
 refine aC (ga @V @wj) trivial ?_;refine aZ.tr (λ(k:Nat)=>[(3,iN (k+1))]) (λ_=>s) (λm k=>m+(k+1)=l.length/\ ∀j,j<k->l[j]? ≠l[j+1]?) (l.length-1) 0 aA aA rfl ⟨by omega,λj v=>by omega⟩ ?_;rintro m k ⟨hm,hne⟩;by_cases hk:k+1<l.length
 .have F:l[k]?=some l[k]:=bQ a8;have G:l[k+1]?=some l[k+1]:=bQ hk;have g:decide (((k+1:Nat):Int)<(l.length:Int))=true:=by simp;omega
  have P:IntKind.i64.wrap (((k+1:Nat):Int)+1)=((k+1+1:Nat):Int):=bN a8 a8;have y:IntKind.i64.wrap (((k+1:Nat):Int)-1)=(k:Int):=bN a8 a8;have a0:=xX F;have N:=xX G;have Q:k*32+32<=l.length*32:=by omega
  have R:(k+1)*32+32<=l.length*32:=by omega
  have p0:k<l.length:=by omega
  have r0:((k+1:Nat):Int)<(l.length:Int):=by omega
  have r1:((k+1:Nat):Int)<=(l.length:Int):=by omega
  repeat' first|refine ab (λ_=> ?_) λ_=> ?_|refine aH ?_|simp only[g,P,y,E,A,hk,p0,a0,N,Q,R,r0,r1,fY,wj,wy,qg,aE,simprocAttr,ax,aD,aB,aw]
  .rename_i o;have C:l.take (k+1)=dJ (l.take (k+2)):=by
    rw[HZ F G,if_pos (by simpa using o),DQ];intro j v;rw[cC]at v;rw[s6 a8,s6 a8];exact hne j a8
   have Y:s=s.set i (.vec 30 32 (dx l)):=by
    apply gW;intro j;rw[fB];split
    .rename_i e;subst e;first|exact E|(rw[if_pos hi,E])
    .rfl
   clear a0 N Q R P y g
   refine aZ.tr (λ(b:Nat×Nat×List Dg)=>[(5,iN (b.1+1)),(3,iN b.2.1)]) (λb=>s.set i (.vec 30 32 (dx b.2.2))) (λm b=>m+(k+1+b.1+1)=l.length/\b.2.2.length=l.length/\b.2.1<=k+1+b.1/\b.2.2.take b.2.1=dJ (l.take (k+1+b.1+1))/\ ∀j,k+1+b.1<=j->b.2.2[j]?=l[j]?) (l.length-(k+2)) (0,k+1,l) aA aA Y ⟨by dsimp only;omega,rfl,by dsimp only;omega,C,λ_ _=>rfl⟩ ?_
   rintro m2 ⟨c,a,L⟩ ⟨X,n,W,u,f⟩;dsimp only at X n W u f⊢;have w:(s.set i (.vec 30 32 (dx L)))[i]?=some (.vec 30 32 (dx L)):=by rw[fB];simp[hi]
   have z:(dx L).length=l.length*32:=by rw[mr,n]
   by_cases K:k+1+c+1<l.length
   .have F:L[k+1+c]?=some l[k+1+c]:=by rw[f _ a8];exact bQ a8
    have G:L[k+1+c+1]?=some l[k+1+c+1]:=by rw[f _ a8];exact bQ K
    have f0:l[k+1+c]?=some l[k+1+c]:=bQ a8;have f1:l[k+1+c+1]?=some l[k+1+c+1]:=bQ K;have I:=HZ f0 f1;have a0:=xX F;have N:((dx L).drop ((k+1+(c+1))*32)).take 32=(au l[k+1+c+1]).map .d:=xX G;have Q:(k+1+c)*32+32<=l.length*32:=by omega
    have R:(k+1+(c+1))*32+32<=l.length*32:=by omega
    have g:decide (((c+1:Nat):Int)<((l.length-(k+1):Nat):Int))=true:=by simp;omega
    have P:IntKind.i64.wrap (((c+1:Nat):Int)+1)=((c+1+1:Nat):Int):=bN a8 a8;have y:IntKind.i64.wrap (((c+1:Nat):Int)-1)=(c:Int):=bN a8 a8;have a4:IntKind.i64.wrap ((a:Int)+1)=((a+1:Nat):Int):=bN a8 a8;have p0:c<l.length-(k+1):=by omega
    have p1:c+1<l.length-(k+1):=by omega
    have p2:k+1+(l.length-(k+1))<=l.length:=by omega
    have p3:a<l.length:=by omega
    have t:=Q4 (L:=L) (k:=a) a8 l[k+1+c+1];have q3:a*32+32<=l.length*32:=by omega
    unfold ba at t;rw[if_pos ⟨by rw[aM,b9],by omega⟩,bk]at t;have D:=aJ t
    repeat' first|refine ab (λ_=> ?_) λ_=> ?_|refine aH ?_|simp only[g,P,y,a4,w,z,p0,p1,p2,p3,a0,N,Q,R,q3,D,List.set_set,fY,wj,wy,qg,aE,simprocAttr,ax,aD,aB,aw]
    .rename_i q;have q: ¬l[k+1+c+1]=l[k+1+c]:=by simpa using q
     refine⟨m2-1,(c+1,a+1,L.set a l[k+1+c+1]),by omega,⟨rfl,rfl⟩,rfl,by dsimp only;omega,by simpa using n,by dsimp only;omega,?_,λj v=> ?_⟩
     .show(L.set a l[k+1+c+1]).take (a+1)=dJ (l.take (k+1+c+2));rw[I,if_neg q,<-u,s9 (by simp;omega),List.getElem_set_self,List.take_set_of_le (bg _)]
     .dsimp only at v⊢;rw[bC a8];exact f j a8
    .rename_i B;have B:l[k+1+c+1]=l[k+1+c]:=by simpa using B
     refine⟨m2-1,(c+1,a,L),by omega,⟨rfl,rfl⟩,rfl,by dsimp only;omega,n,by dsimp only;omega,?_,λj v=>f j (by dsimp only at v;omega)⟩;show L.take a=dJ (l.take (k+1+c+2));rw[I,if_pos B];exact u
   .have g:decide (((c+1:Nat):Int)<((l.length-(k+1):Nat):Int))=false:=by simp;omega
    have r0:(a:Int)<(l.length:Int):=by omega
    have r1:(a:Int)<=(l.length:Int):=by omega
    have J:l.take (k+1+c+1)=l:=dL a8;rw[J]at u;have M:a<=L.length:=by omega
    obtain⟨Z,O⟩: ∃Z,Z=(dx L).take (a*32)++(List.replicate (l.length-a) ((au .zero).map AV.d)).flatten++(dx L).drop (a*32+(l.length-a)*32):=⟨_,rfl⟩
    have H:uT (s.set i (.vec 30 32 (dx L))) 32 ((au .zero).map AV.d) (.vwn i l.length a (l.length-a) 32)=some (.d (.sc (.tuple #[])),s.set i (.vec 30 32 Z)):=by
     show((gY l.length (s.set i (.vec 30 32 (dx L)))[i]?).bind λp=>if(32=32/\p.1=32/\((au .zero).map AV.d).length=32)/\0<l.length-a/\a+(l.length-a)<=l.length then some (AV.d (.sc (.tuple #[])),(s.set i (.vec 30 32 (dx L))).set i (.vec (mA (s.set i (.vec 30 32 (dx L)))[i]?) 32 (p.2.take (a*32)++(List.replicate (l.length-a) ((au .zero).map AV.d)).flatten++p.2.drop (a*32+(l.length-a)*32))))else none)=_
     have a2:gY l.length (s.set i (.vec 30 32 (dx L)))[i]?=some (32,dx L):=by
      rw[w];show(if _ then _ else _)=_;rw[if_pos ⟨by omega,z⟩]
     rw[a2,eE,if_pos ⟨⟨rfl,rfl,by simp[b9]⟩,by omega,by omega⟩,List.set_set,O,w];rfl
    have T:Z.take (a*32)=dx (L.take a):=by
     rw[O,bk,ij (by rw[cC,mr];omega),sa,Nat.min_self,DC L a M]
    have S:Z.length=l.length*32:=by
     rw[O,aQ,aQ,cC,ax,mr,Go.Ab.flatten_len (sz:=32) _ (λr hr=>by obtain⟨_,rfl⟩:=List.mem_replicate.1 hr;simp[b9]),gH,n];omega
    have a3:(s.set i (.vec 30 32 Z))[i]?=some (.vec 30 32 Z):=by rw[fB];simp[hi]
    clear O;have r2:a<=l.length:=by omega
    have U:chunk 32 a (((L.take a).map au).flatten)=(L.take a).map au:=by
     have:=xZ (L.take a);rw[cC,qO M]at this;exact this
    rw[<-u];have r3:(0:Int)<(l.length:Int):=by omega
    repeat' first|refine ab (λ_=> ?_) λ_=> ?_|refine aH ?_|simp only[g,w,z,r0,r1,r2,r3,H,a3,S,T,U,EJ,fY,la,pI,oL,ky,wj,wy,qg,aE,simprocAttr,ax,aD,aB,aw]
  .rename_i o;exact⟨m-1,k+1,by omega,rfl,by omega,λj v=>by
    rcases Nat.lt_succ_iff_lt_or_eq.1 v with h|rfl
    .exact hne j h
    .rw[F,G];intro e;exact absurd (aJ e).symm (by simpa using o)⟩
 .have g:decide (((k+1:Nat):Int)<(l.length:Int))=false:=by simp;omega
  have hc:dJ l=l:=DQ λj v=>hne j a8;rw[hc];exact bL (ga @g (ga @E (ga @A (ga @EJ (ga @xZ @wj))))) trivial
theorem CH(d:D):nI ([]++[AV.d d]++[])=some [d]:=rfl
theorem Nh(d e:D):nI ([]++[AV.d d]++[.d e])=some [d,e]:=rfl
theorem HG{c:az}{t:Nat}(b:2<=t/\t<=7){a:ay}{s:List aa}{K:AV->List aa->Nat->Prop}(hk:K (.d (dB (od c t a))) s 0):af Tryz.prog (.clo (fT t) [] (pV c t)) [.d (.agg (aO a))] s K:=by
 obtain h|h|h|h|h|h:t=2\/t=3\/t=4\/t=5\/t=6\/t=7:=by omega
 all_goals subst h
 .exact af.data (UJ a) (CH _) hk
 .exact af.data (UK a) (CH _) hk
 .exact af.data (UL a) (CH _) hk
 .exact af.data (UM a) (CH _) hk
 .exact af.data (UN a c) (Nh _ _) hk
 .exact af.data (UO a c) (Nh _ _) hk
theorem Yc(c:az): ∀x∈fR c,2<=x.2/\x.2<=7:=by
 intro x a;unfold fR at a;simp only[fk,bM]at a;rcases a with((a|a)|a)|⟨y,_,rfl⟩
 .repeat' split at a
  all_goals simp at a
  all_goals(subst a;simp)
 .split at a
  .simp at a;subst a;simp
  .simp at a
 .split at a
  .simp at a;rcases a with rfl|rfl<;>simp
  .simp at a
 .simp
theorem FM(c:az):(fR c).length<=c.over.length+4:=by
 unfold fR;simp only[aQ,aM]
 repeat' split
 all_goals simp
 all_goals omega
abbrev nW(c:az)(t:Nat):AV:= .clo (fT t) [] (pV c t)
def rowsC(c:az)(l:List (ak×Nat)):List AV:=l.flatMap λp=>di p.1 (nW c p.2)
theorem FV(c:az): ∀l:List (ak×Nat),(rowsC c l).length=l.length*34
 |[]=>rfl
 |p::l=>by
  show(di p.1 (nW c p.2)++rowsC c l).length=_;rw[aQ,fv,FV c l,aY];omega
theorem FU(c:az): ∀(l:List (ak×Nat)) (k:Nat) (x:ak×Nat),l[k]?=some x->((rowsC c l).drop (k*34)).take 34=di x.1 (nW c x.2)
 |p::l,0,x,h=>by
  simp at h;subst h;show((di p.1 (nW c p.2)++rowsC c l).drop (0*34)).take 34=_;rw[oL,ky,ij (by rw[fv];omega),dL (by rw[fv];omega)]
 |p::l,k+1,x,h=>by
  show((di p.1 (nW c p.2)++rowsC c l).drop ((k+1)*34)).take 34=_;rw[iL,iM (by rw[fv];omega),bt,fv,show(k+1)*34-34=k*34 by omega];exact FU c l k x (by simpa using h)
theorem qU.rowsC{v:AV}{J:List aa}{c:az}{l:List (ak×Nat)}(h:qU v J (l.map (Cj c))):(v= .nil 34/\l=[])\/ ∃r,v= .vec (r+1) l.length 34/\J[r]?=some (.vec 287 34 (rowsC c l)):=by
 rcases h with⟨a,b⟩|⟨r,a,b⟩
 .exact .inl ⟨a,by simpa using b⟩
 .refine .inr ⟨r,by simpa using a,?_⟩;rw[b];unfold Q.rowsC;rw[List.flatMap_map];rfl
theorem qq(x:ak)(c:az)(t:Nat):lE (di x (nW c t))=none:=oy ..
theorem qt(x:ak)(a:AV):(di x a)[32]?=some (.d (dI x.n)):=by
 unfold di;rw[fP (by rw[aM,aN];omega),dj,pj];rfl
theorem jk(x:ak)(a:AV):(di x a)[33]?=some a:=by
 unfold di;rw[iY (by rw[aM,aN];omega),aM,aN];rfl
theorem jl(x:ak)(a:AV):(di x a).take 33=(ae x).map .d:=by
 unfold di;rw[ij (by rw[aM,aN];omega),dL (by rw[aM,aN];omega)]
set_option maxHeartbeats 4000000 in
theorem UA(c:az)(own:List ay)(V:c.over.length<=100000)(W:own.length<=100000):aI Tryz.prog 234 [.agg (aR c),.sl 172 (own.map aO)] (dI (tD c own)):=by
 have cR:=L6 c V;have T:=FM c;refine pB Tryz.f234 ?_ [100002] [[1,10,8,2,9]];refine AC.cutJ [1,2] [(1,.d (.sl 172 (own.map aO))),(2,.d (.ref (aR c)))] (λs=>s=[]) ?_ λs H=> ?_
 .exact bL trivial trivial
 subst H;refine AC.cutJ [2] [(2,.d (.ref (aR c)))] (λ_=>iu c own (fR c)=0) ?_ λs H=> ?_
 .repeat' first|refine ab (λ_=> ?_) λ_=> ?_|refine aH ?_|(refine af.fn (cR.mono ?_);rintro d X ⟨J,rfl,S⟩)|simp only[wj,wy,qg,aE,simprocAttr,ax,aD,aB,aw]
  rcases S.rowsC with⟨rfl,U⟩|⟨r,rfl,hr⟩
  .rw[U];refine aC @wj trivial ?_;refine aZ.overI ([]:List Nat) (λk (b:List aa)=>[(10,iN k)]) (λ_ b=> .cells [.nil 34]::J) (λ_ _=>()) () (λ_ _=>True) ([]:List aa) (by simp) aA aA rfl rfl trivial (λk b x hg=>by cases hg) (λb y w _=> ?_);refine aC @wj trivial ?_
   all_goals rfl
  .have e:=FV c (fR c);obtain⟨m,hcells⟩: ∃m,m=rowsC c (fR c):=⟨_,rfl⟩
   rw[<-hcells]at hr e;obtain⟨Y,I⟩: ∃Y,Y=iu c own (fR c):=⟨_,rfl⟩
   rw[<-I];have F:Y≠0->tD c own=Y:=λh=>by unfold tD c9;rw[<-I,if_pos h]
   refine aC (ga @hr @wj) trivial ?_;refine aZ.overI (fR c) (λk (b:List aa)=>[(10,iN k)]) (λ_ b=> .cells [.vec (r+1) (fR c).length 34]::(J++b)) (λl b=>iu c own l) Y (λ_ _=>True) ([]:List aa) a8 aA aA (by simp) I trivial (λk b x hg hk y D w _=> ?_) (λb y w _=> ?_)
   .have a:=FU c (fR c) k x hg;rw[<-hcells]at a;have u:=Yc c x (bR hg);have i:=cF hr;have g:k*34+34<=(fR c).length*34:=by omega
    obtain⟨x,t⟩:=x;rw[iu]at w;dsimp only at a u w;have z:=BY x;have o: ∀{G:List aa},G=aa.cells [.vec (r+1) (fR c).length 34]::(J++(b++[aa.cells (di x (nW c t))]))->jj c own x t=0-> ∃Q,G=aa.cells [.vec (r+1) (fR c).length 34]::(J++Q)/\Y=iu c own (List.drop (k+1) (fR c)):=λj R=>⟨_,j,by rw[w,R];simp⟩
    have f:jj c own x t≠0->tD c own=jj c own x t:=λh=>by rw[F (by rw[w,if_pos h];exact h),w,if_pos h]
    clear F w hg;by_cases E:isZero x.p=true
    .rw[E]at z;by_cases h0:x.n<0
     .rw[f (by unfold jj;rw[if_pos h0];decide)];have v:decide (x.n<0)=true:=by simpa using h0
      repeat' first|refine ab (λ_=> ?_) λ_=> ?_|refine aH ?_|refine af.data (z) rfl ?_|simp only[v,y,D,hk,hr,i,e,a,g,qq,jm,fv,qt,jk,jl,fY,wj,wy,qg,aE,simprocAttr,ax,aD,aB,aw]
      unfold jj;rw[if_pos h0]
     have v:decide (x.n<0)=false:=by simpa using h0
     by_cases j:(own.length:Int)<=x.n
     .rw[f (by unfold jj;rw[if_neg h0,if_pos ⟨E,j⟩];decide)];have A:decide (x.n>=(own.length:Int))=true:=by simpa using j
      repeat' first|refine ab (λ_=> ?_) λ_=> ?_|refine aH ?_|refine af.data (z) rfl ?_|simp only[v,A,y,D,hk,hr,i,e,a,g,qq,jm,fv,qt,jk,jl,fY,wj,wy,qg,aE,simprocAttr,ax,aD,aB,aw]
      unfold jj;rw[if_neg h0,if_pos ⟨E,j⟩]
     have A:decide (x.n>=(own.length:Int))=false:=by simpa using j
     have N:decide (x.n>=100000)=false:=by simp;omega
     have L:x.n.toNat<own.length:=by omega
     have ha:own[x.n.toNat]?=some own[x.n.toNat]:=bQ L;have O:(0<=x.n)=True:=eq_true a8;have q:jj c own x t=if od c t own[x.n.toNat]=false then 8 else 0:=by
      unfold jj;rw[if_neg h0,if_neg (λh=>j h.2),if_neg a8,ha,eF];simp[E]
     by_cases K:od c t own[x.n.toNat]=true
     .repeat' first|refine ab (λ_=> ?_) λ_=> ?_|refine aH ?_|refine af.data (z) rfl ?_|(refine HG u ?_;rw[K])|simp only[v,A,N,ha,O,y,D,hk,hr,i,e,a,g,qq,jm,fv,qt,jk,jl,fY,wj,wy,qg,aE,simprocAttr,ax,aD,aB,aw]
      all_goals exact o rfl (by rw[q,K];rfl)
     .have B:od c t own[x.n.toNat]=false:=by simpa using K
      rw[f (by rw[q,B];decide),q,B]
      repeat' first|refine ab (λ_=> ?_) λ_=> ?_|refine aH ?_|refine af.data (z) rfl ?_|(refine HG u ?_;rw[B])|simp only[v,A,N,ha,O,y,D,hk,hr,i,e,a,g,qq,jm,fv,qt,jk,jl,fY,wj,wy,qg,aE,simprocAttr,ax,aD,aB,aw]
    .have M:isZero x.p=false:=by simpa using E
     rw[M]at z;by_cases h0:x.n<0
     .rw[f (by unfold jj;rw[if_pos h0];decide)];have v:decide (x.n<0)=true:=by simpa using h0
      repeat' first|refine ab (λ_=> ?_) λ_=> ?_|refine aH ?_|refine af.data (z) rfl ?_|simp only[v,y,D,hk,hr,i,e,a,g,qq,jm,fv,qt,jk,jl,fY,wj,wy,qg,aE,simprocAttr,ax,aD,aB,aw]
      unfold jj;rw[if_pos h0]
     have v:decide (x.n<0)=false:=by simpa using h0
     have C: ¬(isZero x.p=true/\(own.length:Int)<=x.n):=λh=>E h.1;by_cases j:100000<=x.n
     .rw[f (by unfold jj;rw[if_neg h0,if_neg C,if_pos j];decide)];have A:decide (x.n>=100000)=true:=by simpa using j
      repeat' first|refine ab (λ_=> ?_) λ_=> ?_|refine aH ?_|refine af.data (z) rfl ?_|simp only[v,A,y,D,hk,hr,i,e,a,g,qq,jm,fv,qt,jk,jl,fY,wj,wy,qg,aE,simprocAttr,ax,aD,aB,aw]
      unfold jj;rw[if_neg h0,if_neg C,if_pos j]
     have A:decide (x.n>=100000)=false:=by simpa using j
     repeat' first|refine ab (λ_=> ?_) λ_=> ?_|refine aH ?_|refine af.data (z) rfl ?_|simp only[v,A,y,D,hk,hr,i,e,a,g,qq,jm,fv,qt,jk,jl,fY,wj,wy,qg,aE,simprocAttr,ax,aD,aB,aw]
     all_goals exact o rfl (by unfold jj;rw[if_neg h0,if_neg C,if_neg j,if_neg (λh=>E h.1)])
   .rw[iu]at w;refine aC (ga @y @wj) trivial ?_
    all_goals exact w
 have P:tD c own=wC c:=by unfold tD;rw[H];exact sZ _
 rw[P];clear P H cR;refine bG ?_
 repeat' first|refine ab (λ_=> ?_) λ_=> ?_|refine aG trivial trivial ?_|exact aF trivial trivial|fail
 all_goals first|(unfold wC;simp_all;done)|(unfold wC;simp_all;omega)|trace_state
end Go.Proofs.Q
