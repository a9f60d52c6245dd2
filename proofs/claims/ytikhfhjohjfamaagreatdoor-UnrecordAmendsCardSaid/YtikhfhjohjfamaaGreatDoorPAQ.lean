/- Lemmas. -/
import Derived.Test.YtikhfhjohjfamaaGreatDoorPAO
import Derived.Test.YtikhfhjohjfamaaGreatDoorPAN
set_option linter.unusedVariables false
set_option linter.unusedSimpArgs false
set_option maxRecDepth 100000
namespace Go.Proofs.Q
open Go Go.Bb Go.Proofs.Lg
open Go.Ab (D)
def lX(c:az):Bool:=
 (decide (c.kind=1)||decide (c.type=0))&&((decide (2<=c.kind/\c.kind<=6)||decide (c.file= .zero))&&((decide (c.kind=2)||(decide (c.parent= .zero)&&decide (c.name=⟨#[]⟩)))&&((decide (c.kind=3)||decide (c.mode=0))&&((decide (c.kind=4)||decide (c.data=⟨#[]⟩))&&((decide (c.kind=5\/c.kind=6)||(decide (c.after= .zero)&&decide (c.before= .zero)))&&((decide (c.kind=5)||decide ((c.lines.length:Int)=0))&&(decide (c.kind≠1/\c.kind≠5)||decide ((c.over.length:Int)=0))))))))
theorem xf(c:az)(a:1<=c.kind)(b:c.kind<=7):lX c=pY (mM c):=by
 obtain h|h|h|h|h|h|h:c.kind=1\/c.kind=2\/c.kind=3\/c.kind=4\/c.kind=5\/c.kind=6\/c.kind=7:=by omega
 all_goals
  rw[l6];simp only[lX,pY,mM,h,dW,jF,decide_eq_true_eq,Int.reduceEq,Int.reduceLE,Int.reduceNe,true_and,and_true,true_or,or_true,false_or,or_false,and_self,if_true,if_false,ne_eq,not_true_eq_false,not_false_eq_true,bc,Int.natCast_zero,Int.reduceNeg,and_false,false_and]
  try(constructor<;>(intro d;simp_all))
def yo(c:az):Int:=
 if c.kind<1\/7<c.kind then 8
 else if lX c=false then 1
 else if c.kind=1/\(c.type<1\/4<c.type)then 8
 else if c.kind=2/\isName c.name=false then 5
 else if c.mode<0\/511<c.mode then 2
 else if 65536<(c.data.size:Int)then 4
 else if c.kind=5/\(c.lines.length:Int)=0 then 1
 else if 2000<(c.lines.length:Int)then 4
 else if mH c.lines≠0 then mH c.lines
 else if c.kind=7/\(c.over.length:Int)=0 then 1
 else if 400<(c.over.length:Int)then 4
 else if iR c.over=false then 9
 else 0
theorem IQ(c:az):yo c=fm c:=by
 unfold yo fm;by_cases h0:c.kind<1\/7<c.kind
 .rw[if_pos h0,if_pos h0]
 rw[if_neg h0,if_neg h0,xf c a8 a8];by_cases a:pY (mM c)=false
 .rw[if_pos a,if_pos a]
 rw[if_neg a,if_neg a];have e:pY (mM c)=true:=by simpa using a
 rw[<-xf c a8 a8]at e;simp only[lX,dW,jF,decide_eq_true_eq]at e;obtain⟨-,-,-,n,l,-,m,k⟩:=e;have i:(c.kind=3/\(c.mode<0\/511<c.mode))↔(c.mode<0\/511<c.mode):=by omega
 simp only[i];by_cases d:c.kind=5
 .have b:c.over=[]:=gV a8;have ha:iR c.over=true:=by rw[b];rfl
  have f: ¬(c.kind=7/\(c.over.length:Int)=0):=by omega
  have g: ¬(400<(c.over.length:Int)):=by rw[b];simp
  rw[if_neg f,if_neg g,ha,if_neg (c:=true=false) (by simp),if_pos d];unfold pb;simp only[d,true_and]
  repeat' split
  all_goals(first|rfl|omega|simp_all)
 .have h:c.lines=[]:=gV a8;have f: ¬(c.kind=5/\(c.lines.length:Int)=0):=by omega
  have g: ¬(2000<(c.lines.length:Int)):=by rw[h];simp
  have j:mH c.lines=0:=by rw[h];rfl
  rw[if_neg f,if_neg g,j,if_neg (c:=(0:Int)≠0) (by simp),if_neg d]
def yU(k:Int):Int:=if k=2 then 2 else if k=3 then 3 else if k=4 then 4 else if k=6 then 6 else 0
def fR(c:az):List (ak×Nat):=
 (if c.kind=2\/c.kind=3 then[(c.file,2)]else if c.kind=4 then[(c.file,3)]else if c.kind=5\/c.kind=6 then[(c.file,4)]else[])++
 (if c.kind=2/\c.parent≠⟨.zero,-1⟩then[(c.parent,5)]else[])++
 (if c.kind=5\/c.kind=6 then[(c.after,6),(c.before,6)]else[])++c.over.map λx=>(x,7)
def od(c:az)(t:Nat)(a:ay):Bool:=
 if t=2 then decide (a.kind=1)
 else if t=3 then decide (a.kind=1)&&(decide (a.type=2)||decide (a.type=3))
 else if t=4 then decide (a.kind=1)&&decide (a.type=1)
 else if t=5 then decide (a.kind=1)&&decide (a.type=4)
 else if t=6 then decide (a.id=c.file)||(decide (a.kind=5)&&decide (a.file=c.file))
 else decide (c.kind=7)||(decide (a.kind=yU c.kind)&&decide (a.file=c.file))
def jj(c:az)(own:List ay)(x:ak)(t:Nat):Int:=
 if x.n<0 then 7 else if isZero x.p=true/\(own.length:Int)<=x.n then 7 else if 100000<=x.n then 7
 else if isZero x.p=true/\od c t ((own[x.n.toNat]?).getD .zero)=false then 8 else 0
def iu(c:az)(own:List ay):List (ak×Nat)->Int
 |[]=>0
 |r::l=>if jj c own r.1 r.2≠0 then jj c own r.1 r.2 else iu c own l
def wC(c:az):Int:=if c.kind=2/\c.parent=c.file then 20 else if(c.kind=6/\c.after=c.before)\/(c.kind=5/\c.after=c.before/\c.after≠c.file)then 1 else 0
def tD(c:az)(own:List ay):Int:=c9 (iu c own (fR c)) (wC c)
def sd(own:List ay):Prop:= ∀(i:Nat) (a:ay),own[i]?=some a->a.id=eM i
theorem Cf(c:az)(own:List ay): ∀(a b:List (ak×Nat)),iu c own (a++b)=c9 (iu c own a) (iu c own b)
 |[],b=>by simp[iu,c9]
 |r::a,b=>by
  rw[gb,iu,iu,Cf c own a b];split
  .simp[c9, *]
  .rfl
theorem sZ(a:Int):c9 0 a=a:=by simp[c9]
theorem sY(a b c:Int):c9 (c9 a b) c=c9 a (c9 b c):=by
 by_cases h:a=0
 .subst h;simp[c9]
 .simp[c9,h]
theorem Ch{c:az}{own:List ay}(g:own.length<=100000)(x:ak)(t:Nat)(f:Bool)(e:isZero x.p=true->0<=x.n->x.n<own.length->f=od c t ((own[x.n.toNat]?).getD .zero)):jj c own x t=kS x own f:=by
 unfold jj kS allowed;by_cases b:isZero x.p=true
 .simp only[b,if_true,true_and,Bool.true_and];by_cases h0:x.n<0
  .rw[if_pos h0,if_pos (by simp;omega)]
  rw[if_neg h0];by_cases a:(own.length:Int)<=x.n
  .rw[if_pos a,if_pos (by simp;omega)]
  rw[if_neg a,if_neg a8,if_neg (c:=(decide (0<=x.n)&&decide (x.n< ↑own.length))=false) (by simp;omega),<-e b a8 a8];cases f<;>simp
 .have d:isZero x.p=false:=by simpa using b
  simp only[d,l7,if_false,false_and,Bool.false_and];by_cases h0:x.n<0
  .rw[if_pos h0,if_pos (by simp;omega)]
  rw[if_neg h0];by_cases a:100000<=x.n
  .rw[if_pos a,if_pos (by simp;omega)]
  .rw[if_neg a,if_neg (by simp;omega)]
theorem Bo{own:List ay}{x:ak}(b:isZero x.p=true)(h0:0<=x.n)(a:x.n<own.length):kO own x=(own[x.n.toNat]?).getD .zero:=if_pos ⟨b,h0,a⟩
theorem KK{c:az}{own:List ay}(b:own.length<=100000)(hk:c.kind=2\/c.kind=3\/c.kind=4\/c.kind=6\/c.kind=7): ∀l:List ak,iu c own (l.map λx=>(x,7))=ou c own l
 |[]=>rfl
 |x::l=>by
  have a:jj c own x 7=kS x own (ri c.kind c.file (kO own x)):=Ch b x 7 _ λd h0 a=>by
   rw[Bo d h0 a];unfold ri od xm yU;obtain h|h|h|h|h:=hk<;>simp[h]
  rw[bX,iu,ou,KK b hk l];simp only[a]
theorem a0z{x:ak}(a:isZero x.p=true)(h0:0<=x.n):x=eM x.n.toNat:=by
 obtain⟨p,n⟩:=x;simp only[isZero,decide_eq_true_eq]at a;subst a;simp only[eM]at*;congr 1;omega
theorem Ye{c:az}{own:List ay}(g:own.length<=100000)(v:sd own)(d:1<=c.kind)(y:c.kind<=7)(l:c.kind=1\/c.kind=5->c.over=[]):tD c own=iG c own:=by
 have p:iu c own (if c.kind=2\/c.kind=3 then[(c.file,2)]else if c.kind=4 then[(c.file,3)]else if c.kind=5\/c.kind=6 then[(c.file,4)]else[])=rI c own:=by
  unfold rI;have b: ∀t,(∀a,gN c.kind a=od c t a)->iu c own [(c.file,t)]=kS c.file own (gN c.kind (kO own c.file)):=λt w=>by
   have:=Ch (c:=c) g c.file t (gN c.kind (kO own c.file)) λe h0 d=>by rw[Bo e h0 d,w]
   simp only[iu,this];split<;>simp_all
  by_cases k:c.kind=2\/c.kind=3
  .rw[if_pos k,if_pos a8];refine b 2 λa=> ?_;simp only[gN,od,nG];obtain h|h:=k<;>simp[h]
  rw[if_neg k];by_cases m:c.kind=4
  .rw[if_pos m,if_pos a8];refine b 3 λa=> ?_;simp only[gN,od,nG];simp[m]
  rw[if_neg m];by_cases f:c.kind=5\/c.kind=6
  .rw[if_pos f,if_pos a8];refine b 4 λa=> ?_;simp only[gN,od,nG];obtain h|h:=f<;>simp[h]
  rw[if_neg f,if_neg a8];rfl
 have q:iu c own (if c.kind=2/\c.parent≠⟨.zero,-1⟩then[(c.parent,5)]else[])=uM c own:=by
  unfold uM;split
  .rename_i k;have:=Ch (c:=c) g c.parent 5 (decide ((kO own c.parent).kind=1)&&decide ((kO own c.parent).type=4)) λe h0 d=>by rw[Bo e h0 d];rfl
   simp only[iu,this];split<;>simp_all
  .rfl
 have r:iu c own (if c.kind=5\/c.kind=6 then[(c.after,6),(c.before,6)]else[])=tC c own:=by
  unfold tC;have b: ∀x:ak,jj c own x 6=wb c own x:=λx=>Ch g x 6 _ λe h0 d=>by
   rw[Bo e h0 d];have j:x.n.toNat<own.length:=by omega
   have hg:=bQ j;have i:=v _ _ hg;rw[hg,eF];unfold od oY;simp only[i,<-a0z e h0];rfl
  by_cases k:c.kind=5\/c.kind=6
  .rw[if_pos k,if_pos (by simp[nG];exact k)];simp only[iu,rf,b]
  .rw[if_neg k,if_neg (by simp[nG];omega)];rfl
 have s:iu c own (c.over.map λx=>(x,7))=ou c own c.over:=by
  by_cases k:c.kind=1\/c.kind=5
  .rw[l k];rfl
  .exact KK g a8 _
 have u:wC c=yI c:=by
  unfold wC yI nG;by_cases k:c.kind=2/\c.parent=c.file
  .rw[if_pos k,if_pos k]
  rw[if_neg k,if_neg k];by_cases f:c.kind=5
  .simp[f]
  .by_cases o:c.kind=6
   .simp[o]
   .simp[f,o]
 unfold tD iG fR;rw[Cf,Cf,Cf,p,q,r,s,u,sY,sY,sY]
def Cg(c:az):List ak:=(fR c).map (·.1)
theorem Yb{c:az}(h:fm c=0)(d:Dg):(∃y∈Cg c,isZero y.p=false/\y.p=d)↔ ∃y∈iV c,isZero y.p=false/\y.p=d:=by
 obtain⟨⟨f,z⟩,n,_⟩:=nY h;rw[<-xf c f z]at n;simp only[lX,dW,jF,decide_eq_true_eq]at n;obtain⟨-,B,s,-,-,A,-,C⟩:=n;have o:isZero ak.zero.p=true:=by simp[isZero,ak.zero]
 have q:isZero (⟨.zero,-1⟩:ak).p=true:=by simp[isZero]
 have b: ∀y:ak,isZero y.p=false->(y∈Cg c↔y∈iV c):=λy j=>by
  simp only[Cg,fR,iV,fF,ll,fk,bF];have a:y≠ak.zero:=λe=>by rw[e,o]at j;cases j
  have i:y≠⟨.zero,-1⟩:=λe=>by rw[e,q]at j;cases j
  have w:(y∈List.map ((λx:ak×Nat=>x.1)∘λx=>(x,7)) c.over)↔y∈c.over:=by
   have:((λx:ak×Nat=>x.1)∘λx=>(x,7))=(id:ak->ak):=rfl;rw[this,List.map_id]
  rw[w];have t:(y∈(if c.kind=2\/c.kind=3 then[(c.file,2)]else if c.kind=4 then[(c.file,3)]else if c.kind=5\/c.kind=6 then[(c.file,4)]else[]).map (λx:ak×Nat=>x.1))↔y=c.file:=by
   by_cases k:2<=c.kind/\c.kind<=6
   .repeat' split
    all_goals(first|simp;done|omega)
   .rw[if_neg a8,if_neg a8,if_neg a8];have:c.file= .zero:=by simpa[k]using B
    rw[this];simp[a]
  have u:(y∈(if c.kind=2/\c.parent≠⟨.zero,-1⟩then[(c.parent,5)]else[]).map (λx:ak×Nat=>x.1))↔y=c.parent:=by
   by_cases k:c.kind=2
   .by_cases r:c.parent=⟨.zero,-1⟩
    .rw[if_neg (λm=>m.2 r),r];simp[i]
    .rw[if_pos ⟨k,r⟩];simp
   .rw[if_neg (λm=>k m.1)];have:c.parent= .zero:=by simp[k]at s;exact s.1
    rw[this];simp[a]
  have v:(y∈(if c.kind=5\/c.kind=6 then[(c.after,6),(c.before,6)]else[]).map (λx:ak×Nat=>x.1))↔y=c.after\/y=c.before:=by
   by_cases k:c.kind=5\/c.kind=6
   .rw[if_pos k];simp
   .rw[if_neg k];have:c.after= .zero/\c.before= .zero:=by simpa[k]using A
    rw[this.1,this.2];simp[a]
  rw[t,u,v];constructor
  .rintro(((h|h)|(h|h))|h)<;>simp[h]
  .rintro(h|h|h|h|h)<;>simp[h]
 constructor
 .rintro⟨y,f,g,l⟩;exact⟨y,(b y g).1 f,g,l⟩
 .rintro⟨y,f,g,l⟩;exact⟨y,(b y g).2 f,g,l⟩
end Go.Proofs.Q
namespace Go.Proofs.Q
open Go Go.Bb Go.RowKit Go.Proofs.Lg
open Go.Ab (D RD)
theorem wA(l:List ak)(x:ak):(p7 l x).length<=l.length+1:=by
 unfold p7;split
 .omega
 .have:=JE x l 0;simp;omega
def k9(d:Dg)(x:ay):ay:=
 let x:={x with id:={x.id with p:=d}}
 let x:=if x.kind≠7 then{x with file:=whole x.file d}else x;let x:=if x.kind=2 then{x with parent:=whole x.parent d}else x
 if x.kind=6 then{x with fro:=whole x.fro d,til:=whole x.til d}else x
theorem uq(d:Dg)(x:ay):wi d x={k9 d x with over:=gO (x.over.map (whole · d)) []}:=by
 unfold wi k9;dsimp only;by_cases c:x.kind=7
 .simp[c]
 .by_cases a:x.kind=2
  .simp[a]
  .by_cases b:x.kind=6
   .simp[b]
   .simp[c,a,b]
theorem RT(d:Dg)(x:ay):(k9 d x).over=x.over:=by
 unfold k9;dsimp only;by_cases c:x.kind=7
 .simp[c]
 .by_cases a:x.kind=2
  .simp[a]
  .by_cases b:x.kind=6
   .simp[b]
   .simp[c,a,b]
theorem zc(x:ay)(d:Dg):ba ((aO x).map .d) 0 32 ((au d).map .d)=some ((aO {x with id:={x.id with p:=d}}).map .d):=by
 obtain⟨C,a⟩: ∃C:List D,C=[.sc (.int .i64 x.id.n)]++(aO x).drop 33:=⟨_,rfl⟩
 refine df (A:=[]) (B:=au x.id.p) (C:=C) (B':=au d) ?_ rfl (b9 _) (b9 _) ?_
 .rw[a];simp only[aO,ae,bk,bt];rw[iL,iM (by rw[b9];decide),b9];rfl
 .rw[a];simp only[aO,ae,bk,bt];rw[iL,iM (by rw[b9];decide),b9];rfl
theorem CD{b:List ay}{A:ay}{R rest:List ay}{id sz e n m:Nat}{X:aa}{c:List aa}(d:R=b++A::rest)(hm:b.length+1=m): ∃a:List ay×List aa,AV.tsl id sz (b.map aO++[aO A])=AV.tsl id sz (a.1.map aO)/\X::aa.row e n (b.length+1)::c=X::aa.row e n a.1.length::a.2/\R=a.1++rest/\a.1.length=m:=⟨(b++[A],c),by simp,by simp,by simp[d],by simp[hm]⟩
set_option maxHeartbeats 4000000 in
theorem Ls(p:aU)(H:bS p):aI Tryz.prog 42 [.agg (br p)] (.tup [.sl 172 ((ew aq p).1.map aO),dI (ew aq p).2]):=by
 have s:=Fa p H;have A:=Lw p H.z;unfold ew;by_cases h:(bj aq p).2=0
 .rw[h]at s;have B:(dN p).2=0:=by
   unfold bj at h;split at h
   .rename_i D;exact absurd h D
   .rename_i D;exact vQ (p:=p) (by simpa[gj]using D)
  rw[if_neg (by simpa using h)];obtain⟨_,F,_,v,_⟩:=jx B;have q: ∀x∈(dN p).1,x.over.length<=400:=by rw[v];exact DJ (by simp)
  have f:(dN p).1.length<=1604400:=by have:=AM (l:=p.changes) (own:=[]);rw[<-v]at this;simp at this;omega
  obtain⟨d,I⟩: ∃d,d=(bj aq p).1:=⟨_,rfl⟩
  obtain⟨own,t⟩: ∃own,own=(dN p).1:=⟨_,rfl⟩
  rw[<-I]at s⊢;rw[<-t]at A q f⊢;clear h B v F H I t;refine aL Tryz.f42 ?_ [100001,100020,100070,100091] [[9,8,4,6],[12,4,10,11,8,9,6]];refine aC (ga @fy @b9) (ga @s @A) ?_
  refine aZ.overI own (λk (b:List ay×List aa)=>[(9,iN k),(8,.tsl 1 172 (b.1.map aO))]) (λk b=>[.cells ((au d).map .d),.row 46 172 b.1.length]++b.2) (λr b=>b.1++r.map (wi d)) (own.map (wi d)) (λk b=>b.1.length=k) ([],[]) a8 aA aA rfl rfl rfl (λk b x hg hk o u i E=> ?_) (λb o i E=> ?_)
  .obtain⟨b,J⟩:=b;have O:=q x (bR hg);have C:bw (b.length+1) 296=true:=by simp only[bw,decide_eq_true_eq];dsimp only at E;omega
   rw[bX,uq]at i;dsimp only at E;obtain w|hk2|hk6|⟨n7,n2,n6⟩:x.kind=7\/x.kind=2\/x.kind=6\/(x.kind≠7/\x.kind≠2/\x.kind≠6):=by omega
   .have e:k9 d x={x with id:={x.id with p:=d}}:=by simp[k9,w]
    refine aC (ga @o (ga @u (ga @hg (ga @w (ga @zc (ga @cG (ga @bB @wj))))))) @tj ?_
    refine aZ.overI x.over (λm (l:List ak)=>[(12,iN m),(11,.d (.sl 33 (l.map ae)))]) (λ_ _=>_) (λr l=>gO (r.map (whole · d)) l) (gO (x.over.map (whole · d)) []) (λm l=>l.length<=m) [] a8 aA aA rfl rfl (by simp) (λm l y j hm c n a g=> ?_) (λl c a g=> ?_)
    .have ci:=z7 l (whole y d) a8;have G:=wA l (whole y d);rw[bX,gO]at a;refine aC (ga @c (ga @n (ga @j @wj))) (ga @tj @ci) ?_;exact⟨_,rfl,a,by omega⟩
    .rw[fi,gO]at a;rw[a,e]at i;clear a e q f s A;refine aC (ga @c (ga @u (ga @C @wj))) trivial ?_;rw[w]at i;exact CD i a8
   .have e:k9 d x={x with id:={x.id with p:=d},file:=whole x.file d,parent:=whole x.parent d}:=by simp[k9,hk2]
    refine aC (ga @o (ga @u (ga @hg (ga @hk2 (ga @zc (ga @cG (ga @bB @wj))))))) @tj ?_
    refine aZ.overI x.over (λm (l:List ak)=>[(12,iN m),(11,.d (.sl 33 (l.map ae)))]) (λ_ _=>_) (λr l=>gO (r.map (whole · d)) l) (gO (x.over.map (whole · d)) []) (λm l=>l.length<=m) [] a8 aA aA rfl rfl (by simp) (λm l y j hm c n a g=> ?_) (λl c a g=> ?_)
    .have ci:=z7 l (whole y d) a8;have G:=wA l (whole y d);rw[bX,gO]at a;refine aC (ga @c (ga @n (ga @j @wj))) (ga @tj @ci) ?_;exact⟨_,rfl,a,by omega⟩
    .rw[fi,gO]at a;rw[a,e]at i;clear a e q f s A;refine aC (ga @c (ga @u (ga @C @wj))) trivial ?_;rw[hk2]at i;exact CD i a8
   .have e:k9 d x={x with id:={x.id with p:=d},file:=whole x.file d,fro:=whole x.fro d,til:=whole x.til d}:=by simp[k9,hk6]
    refine aC (ga @o (ga @u (ga @hg (ga @hk6 (ga @zc (ga @cG (ga @bB @wj))))))) @tj ?_
    refine aZ.overI x.over (λm (l:List ak)=>[(12,iN m),(11,.d (.sl 33 (l.map ae)))]) (λ_ _=>_) (λr l=>gO (r.map (whole · d)) l) (gO (x.over.map (whole · d)) []) (λm l=>l.length<=m) [] a8 aA aA rfl rfl (by simp) (λm l y j hm c n a g=> ?_) (λl c a g=> ?_)
    .have ci:=z7 l (whole y d) a8;have G:=wA l (whole y d);rw[bX,gO]at a;refine aC (ga @c (ga @n (ga @j @wj))) (ga @tj @ci) ?_;exact⟨_,rfl,a,by omega⟩
    .rw[fi,gO]at a;rw[a,e]at i;clear a e q f s A;refine aC (ga @c (ga @u (ga @C @wj))) trivial ?_;rw[hk6]at i;exact CD i a8
   .have e:k9 d x={x with id:={x.id with p:=d},file:=whole x.file d}:=by simp[k9,n7,n2,n6]
    have N:(x.kind !=7)=true:=by simpa using n7
    have L:(x.kind==2)=false:=by simpa using n2
    have M:(x.kind==6)=false:=by simpa using n6
    refine aC (ga @o (ga @u (ga @hg (ga @N (ga @L (ga @M (ga @zc (ga @cG (ga @bB @wj))))))))) @tj ?_
    refine aZ.overI x.over (λm (l:List ak)=>[(12,iN m),(11,.d (.sl 33 (l.map ae)))]) (λ_ _=>_) (λr l=>gO (r.map (whole · d)) l) (gO (x.over.map (whole · d)) []) (λm l=>l.length<=m) [] a8 aA aA rfl rfl (by simp) (λm l y j hm c n a g=> ?_) (λl c a g=> ?_)
    .have ci:=z7 l (whole y d) a8;have G:=wA l (whole y d);rw[bX,gO]at a;refine aC (ga @c (ga @n (ga @j @wj))) (ga @tj @ci) ?_;exact⟨_,rfl,a,by omega⟩
    .rw[fi,gO]at a;rw[a,e]at i;clear a e q f s A;refine aC (ga @c (ga @u (ga @C @wj))) trivial ?_;exact CD i a8
  .rw[fi,bq]at i;refine aC @o trivial ?_;rw[i]
 .have K:((bj aq p).2 !=0)=true:=by simpa using h
  rw[if_pos h];refine aL Tryz.f42 ?_ [100001,100020,100070,100091] [[9,8,4,6],[12,4,10,11,8,9,6]];exact bL (ga @K (ga @fy @b9)) @s
end Go.Proofs.Q
