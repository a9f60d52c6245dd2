/- Lemmas. -/
import Derived.Test.YtikhfhjohjfamaaGreatDoorPAI
set_option linter.unusedVariables false
set_option linter.unusedSimpArgs false
set_option maxRecDepth 100000
namespace Go.Proofs.Q
open Go Go.Bb Go.RowKit Go.Proofs.Lg
open Go.Ab (D RD)
theorem VJ(c:az):aI Tryz.prog 312 [.agg (aR c)] (dB (pY c)):=by
 refine aL Tryz.f312 ?_ [100001]
 repeat' first|refine ab (λ_=> ?_) λ_=> ?_|refine aG @mq @Fe ?_|exact aF @mq @Fe|fail
 all_goals(simp_all[pY,cj];try exact ch)
set_option maxHeartbeats 1000000 in
theorem VP(c:az):aI Tryz.prog 313 [.agg (aR c)] (.agg (aR (mM c))):=by
 refine aL Tryz.f313 ?_
 repeat' first|refine ab (λ_=> ?_) λ_=> ?_|refine aH ?_|refine af.data (Fe) rfl ?_|simp only[gF,datA,wy,qg,aE,simprocAttr,ax,aD,aB,aw]
 all_goals refine congrArg (λx=>D.agg (aR x)) ?_
 all_goals(simp_all[mM,cj];try exact ch)
theorem VM(l:List bb)(e: ∀s∈l,ByteArray.size s<=9223372036854775807):aI Tryz.prog 314 [.sl 1 (l.map fA)] (dI (pb l)):=by
 refine aI.big (kM (by kernel_rfl)) 0 rfl λb=> ?_;rw[aM]at b;refine aL Tryz.f314 ?_ [] [[3,0]]
 repeat' first|refine ab (λ_=> ?_) λ_=> ?_|refine aG trivial trivial ?_|exact aF trivial trivial|fail
 .all_goals(simp_all[pb,cj];try exact ch)
 .all_goals(simp_all[pb,cj];try exact ch)
 .rename_i g h;refine aZ.over l (λk (_:Unit)=>[(3,iN k)]) (λ_ _=>[]) (λl _=>mH l) (pb l) () b aA aA rfl (by simp_all[pb];intros;omega) (λk _ x hg hk a f d=> ?_) (λ_ a d=> ?_)
  .have c:=e x (bR hg)
   repeat' first|simp only[a,f,hg,fA]|refine ab (λ_=> ?_) λ_=> ?_|refine aG trivial (Lp _ c) ?_|exact aF trivial (Lp _ c)|fail
   all_goals(simp_all[mH,cj];try exact ch)
  .refine aC @a trivial ?_
   all_goals(simp_all[mH,cj];try exact ch)
theorem tg(own:List ay)(x:ak):aI Tryz.prog 317 [.sl 172 (own.map aO),.agg (ae x)] (.agg (aO (kO own x))):=by
 refine aL Tryz.f317 ?_ [100003,300025]
 repeat' first|refine ab (λ_=> ?_) λ_=> ?_|refine aG (ga @cG @bB) @lQ ?_|exact aF (ga @cG @bB) @lQ|fail
 .rename_i f e g;have d:x.n.toNat<own.length:=by omega
  have hg:=bQ d;refine aC (ga @e (ga @hg (ga @cG @bB))) trivial ?_
  all_goals(simp_all[kO,cj];try exact ch)
 all_goals(have h:kO own x=ay.zero:=if_neg (λ⟨a,b,c⟩=>by first|(simp_all;done)|omega);rw[h])
theorem VA(l:List ak):aI Tryz.prog 315 [.sl 33 (l.map ae)] (dB (iR l)):=by
 refine aI.big (kM (by kernel_rfl)) 0 rfl λg=> ?_;rw[aM]at g;refine aL Tryz.f315 ?_ [] [[3,0]];refine aC trivial trivial ?_;refine aZ.tr (λ(k:Nat)=>[(3,iN (k+1))]) (λ_=>[]) (λm k=>m+k=l.length/\iR l=iR (l.drop k)) l.length 0 aA aA rfl ⟨rfl,rfl⟩ ?_;rintro m k ⟨hm,a⟩;by_cases hk:k+1<l.length
 .have h0:l[k]?=some l[k]:=bQ a8;have e:l[k+1]?=some l[k+1]:=bQ hk;have c:decide (((k+1:Nat):Int)<(l.length:Int))=true:=by simp;omega
  have f:IntKind.i64.wrap (((k+1:Nat):Int)+1)=((k+1+1:Nat):Int):=bN a8 a8;have b:IntKind.i64.wrap (((k+1:Nat):Int)-1)=(k:Int):=bN a8 a8;rw[lh (by omega:k<l.length),lh hk]at a
  repeat' first|refine ab (λ_=> ?_) λ_=> ?_|refine aG (ga @c (ga @f (ga @b (ga @h0 @e)))) @C2 ?_|exact aF (ga @c (ga @f (ga @b (ga @h0 @e)))) @C2|fail
  .all_goals(simp_all[iR,cj];try exact ch)
  .rename_i hc;rw[iR,if_neg (by simpa using hc),<-lh hk]at a;exact⟨m-1,k+1,by omega,rfl,by omega,a⟩
 .have c:decide (((k+1:Nat):Int)<(l.length:Int))=false:=by simp;omega
  have d:iR (l.drop k)=true:=by
   have:(l.drop k).length<=1:=by rw[ax];omega
   match l.drop k,this with
   |[],_=>rfl
   |[_],_=>rfl
  rw[d]at a;refine aC @c trivial ?_
  all_goals(simp_all[a,cj];try exact ch)
theorem JE(x:ak): ∀(l:List ak) (k:Nat),k<=kQ x l k/\kQ x l k<=k+l.length
 |[],k=>by simp[kQ]
 |y::l,k=>by
  unfold kQ;split
  .have:=JE x l (k+1);simp only[aY];omega
  .simp
theorem Ep{l:List ak}{x:ak}{k:Nat}(h:kQ x l 0=k):p7 l x=if l[k]?=some x then l else l.take k++x::l.drop k:=by unfold p7;rw[h]
theorem z7(l:List ak)(z:ak)(o:l.length<=1000000000):aI Tryz.prog 109 [.sl 33 (l.map ae),.agg (ae z)] (.sl 33 ((p7 l z).map ae)):=by
 refine aL Tryz.f109 ?_ [100003,100042] [[5,3,0]];refine aC trivial trivial ?_;refine aZ.over l (λk (_:Unit)=>[(5,iN k)]) (λ_ _=>[]) (λr _=>kQ z r (l.length-r.length)) (kQ z l 0) () a8 aA aA rfl (by simp) (λk _ x hg hk b i a=> ?_) (λ_ b a=> ?_)
 .have m:l.length-(x::l.drop (k+1)).length=k:=by simp only[aY,ax];omega
  have n:l.length-(l.drop (k+1)).length=k+1:=by simp only[ax];omega
  rw[m,kQ]at a;have c:(k:Int)<=(l.length:Int):=by omega
  have d:bw (l.take k).length 40=true:=by simp only[bw,decide_eq_true_eq,cC];omega
  have r2:bw ((l.take k).length+1) 40=true:=by simp only[bw,decide_eq_true_eq,cC];omega
  have j:bw ((l.take k).length+1+(l.length-k)) 40=true:=by simp only[bw,decide_eq_true_eq,cC];omega
  repeat' first|simp only[qL]|refine ab (λ_=> ?_) λ_=> ?_|refine aG (ga @b (ga @i (ga @hg (ga @c (ga @d (ga @r2 @j)))))) @C2 ?_|exact aF (ga @b (ga @i (ga @hg (ga @c (ga @d (ga @r2 @j)))))) @C2|fail
  .rename_i h;rw[if_pos h]at a;exact⟨(),by rw[a];congr 1;omega⟩
  .rename_i e f;rw[if_neg e]at a;rw[Ep a,hg,if_pos (by rw[f])]
  .rename_i e f;rw[if_neg e]at a;rw[Ep a,hg,if_neg (by simpa using f)];simp[Fv]
 .have c:bw l.length 40=true:=by simp only[bw,decide_eq_true_eq];omega
  have d:bw (l.length+1) 40=true:=by simp only[bw,decide_eq_true_eq];omega
  have g:kQ z l 0=l.length:=by rw[a];simp[kQ]
  repeat' first|simp only[qL,vp]|refine ab (λ_=> ?_) λ_=> ?_|refine aG (ga @b (ga @c (ga @d @jc))) trivial ?_|exact aF (ga @b (ga @c (ga @d @jc))) trivial|fail
  rw[Ep g,iO (bg _),if_neg (by simp)];simp
structure GG(c:az):Prop where
 name:ByteArray.size c.name<=9223372036854775807
 line: ∀s∈c.lines,ByteArray.size s<=9223372036854775807
set_option maxHeartbeats 4000000 in
theorem VL(c:az)(hc:GG c):aI Tryz.prog 247 [.agg (aR c)] (dI (fm c)):=by
 have a:=hc.name;have b:=hc.line;clear hc;refine aL Tryz.f247 ?_ [100001]
 repeat' first|refine ab (λ_=> ?_) λ_=> ?_|refine aH ?_|refine af.data (VP _) rfl ?_|refine af.data (VJ _) rfl ?_|refine af.data (Lr _ a) rfl ?_|refine af.data (VM _ b) rfl ?_|refine af.data (VA _) rfl ?_|simp only[decide_true,wy,qg,aE,simprocAttr,ax,aD,aB,aw]
 clear a b
 all_goals(simp_all[fm,cj];try exact ch)
theorem VI(l:List Dg):aI Tryz.prog 175 [.sl 32 (l.map au)] (dI (iz l)):=by
 refine aI.big (kM (by kernel_rfl)) 0 rfl λo=> ?_;rw[aM]at o;refine aL Tryz.f175 ?_ [] [[0,3]]
 repeat' first|refine ab (λ_=> ?_) λ_=> ?_|refine aG trivial trivial ?_|exact aF trivial trivial|fail
 .all_goals(simp_all[iz,cj];try exact ch)
 .rename_i h0;refine aZ.overI l (λk (p:Option Dg)=>[(3,iN k)]) (λ_ _=>[]) (λl p=>jy p l) (iz l) (λk p=>p=if k=0 then none else l[k-1]?) none o aA aA rfl (by unfold iz;rw[if_neg a8]) rfl (λk p x hg hk b r a n=> ?_) (λp b a _=> ?_)
  .cases k with
   |zero=>
    obtain rfl:=n;have f:decide ((0:Int)<(l.length:Int))=true:=decide_eq_true a8;have m:IntKind.i64.wrap ((0:Int)+1)=1:=by rfl
    have g:l[0]?=some x:=hg
    repeat' first|refine ab (λ_=> ?_) λ_=> ?_|refine aH ?_|refine af.data (lQ _) rfl ?_|refine af.data (ow _ _) rfl ?_|simp only[f,m,g,n0,l9,la,gt_iff_lt,decide_false,wy,qg,aE,reduceCtorEq,reduceIte,Nat.reduceAdd,Nat.reduceMul,Nat.reduceEqDiff,Nat.reduceLT,Nat.reduceLeDiff,Nat.reduceSub,ax,aD,aB,aw]
    .rename_i h;rw[a,jy,if_pos h]
    .rename_i h;exact⟨some x,by rw[a,jy,if_neg (by simp[h]),if_neg (by simp)],rfl⟩
   |succ j=>
    obtain⟨q,i⟩: ∃q,l[j]?=some q:=⟨_,bQ a8⟩
    have hp:p=some q:=by rw[n,if_neg a8];exact i
    subst hp;have d:IntKind.i64.wrap (((j+1:Nat):Int)-1)=(j:Int):=bN a8 a8;have c:decide (((j+1:Nat):Int)>0)=true:=decide_eq_true a8
    repeat' first|refine ab (λ_=> ?_) λ_=> ?_|refine aG (ga @b (ga @r (ga @hg (ga @i (ga @d @c))))) (ga @lQ @ow) ?_|exact aF (ga @b (ga @r (ga @hg (ga @i (ga @d @c))))) (ga @lQ @ow)|fail
    .rename_i h;rw[a,jy,if_pos h]
    .rename_i h e;rw[a,jy,if_neg (by simp[h]),if_pos (by simpa using e)]
    .rename_i h e;exact⟨some x,by rw[a,jy,if_neg (by simp[h]),if_neg (by simpa using e)],by first|(simp;done)|simpa using hg.symm⟩
  .repeat' first|refine ab (λ_=> ?_) λ_=> ?_|refine aG @b trivial ?_|exact aF @b trivial|fail
   all_goals(simp_all[jy,cj];try exact ch)
theorem xU:aI Tryz.prog 28 [] (.agg (ae ⟨.zero,-1⟩)):=by
 refine aL Tryz.f28 ?_ [300001];refine aC trivial trivial ?_
 all_goals rfl
set_option maxHeartbeats 4000000 in
theorem VO(c:az)(own:List ay)(b:c.over.length<=9223372036854775807):aI Tryz.prog 248 [.agg (aR c),.sl 172 (own.map aO)] (dI (iG c own)):=by
 refine pB Tryz.f248 ?_ [100002,100070] [[9,8,1,2],[11,2,1]];refine AC.cut [1,2] [(1,.d (.sl 172 (own.map aO))),(2,.d (.ref (aR c)))] [] True ?_ λJ _=> ?_
 .refine aC trivial trivial ?_
  all_goals exact⟨_,rfl⟩
 refine AC.cut [1,2] [(1,.d (.sl 172 (own.map aO))),(2,.d (.ref (aR c)))] [] (rI c own=0) ?_ λJ m=> ?_
 .repeat' first|refine ab (λ_=> ?_) λ_=> ?_|refine aG trivial (ga @tg (ga @C4 @th)) ?_|exact aF trivial (ga @tg (ga @C4 @th))|fail
  all_goals first|(refine⟨⟨_,rfl⟩,?_⟩;all_goals(simp_all[rI,cj];try exact ch);done)|(all_goals(simp_all[iG,rI,c9,cj];try exact ch);done)
 refine AC.cut [1,2] [(1,.d (.sl 172 (own.map aO))),(2,.d (.ref (aR c)))] [] (uM c own=0) ?_ λJ o=> ?_
 .repeat' first|refine ab (λ_=> ?_) λ_=> ?_|refine aG (ga @cG (ga @bB @wj)) (ga @tg (ga @xU @th)) ?_|exact aF (ga @cG (ga @bB @wj)) (ga @tg (ga @xU @th))|fail
  all_goals first|(refine⟨⟨_,rfl⟩,?_⟩;all_goals(simp_all[uM,cj];try exact ch);done)|(simp only[iG,m];all_goals(simp_all[uM,c9,cj];try exact ch);done)
 refine AC.cut [1,2] [(1,.d (.sl 172 (own.map aO))),(2,.d (.ref (aR c)))] [] (tC c own=0) ?_ λJ p=> ?_
 .repeat' first|refine ab (λ_=> ?_) λ_=> ?_|refine aG trivial @wR ?_|exact aF trivial @wR|fail
  .rename_i j;have r:tC c own=rf c own [c.after,c.before]:=by simp[tC,j]
   obtain⟨L,i⟩: ∃L,L=[c.after,c.before]:=⟨_,rfl⟩
   rw[<-i]at r;have h:L.length=2:=by rw[i];rfl
   refine aZ.over L (λk (_:Unit)=>[(9,iN k)]) (λ_ _=>[]++J) (λl _=>rf c own l) (rf c own L) () a8 aA aA rfl rfl (λk _ x hg hk f e g=> ?_) (λ_ f g=> ?_)
   .have n:[ae c.after,ae c.before][k]?=some (ae x):=by
     rw[show[ae c.after,ae c.before]=L.map ae from by rw[i];rfl,dj,hg];rfl
    have a:((k:Nat):Int)<2:=by omega
    rw[rf,wb]at g;clear i h
    repeat' first|refine ab (λ_=> ?_) λ_=> ?_|refine aG (ga @a (ga @n @e)) (ga @tg (ga @C3 @th)) ?_|exact aF (ga @a (ga @n @e)) (ga @tg (ga @C3 @th))|fail
    all_goals(clear e;all_goals(simp_all[iG,c9,cj];try exact ch))
   .have a:(L.length:Int)=2:=by omega
    refine aC @a trivial ?_
    all_goals(simp_all[rf,cj];try exact ch)
  .rename_i j;simp[tC,j]
 refine AC.cut [1,2] [(1,.d (.sl 172 (own.map aO))),(2,.d (.ref (aR c)))] [] (ou c own c.over=0) ?_ λJ q=> ?_
 .refine aC trivial trivial ?_;refine aZ.over c.over (λk (_:Unit)=>[(11,iN k)]) (λ_ _=>[]++J) (λl _=>ou c own l) (ou c own c.over) () b aA aA rfl rfl (λk _ x hg hk f e g=> ?_) (λ_ f g=> ?_)
  .rw[ou]at g
   repeat' first|refine ab (λ_=> ?_) λ_=> ?_|refine aG (ga @f (ga @hg @e)) (ga @tg (ga @C5 @th)) ?_|exact aF (ga @f (ga @hg @e)) (ga @tg (ga @C5 @th))|fail
   all_goals(clear e;all_goals(simp_all[iG,c9,cj];try exact ch))
  .refine aC @f trivial ?_
   all_goals(simp_all[ou,cj];try exact ch)
 have s:iG c own=yI c:=by simp[iG,c9,m,o,p,q]
 rw[s];refine bG ?_
 repeat' first|refine ab (λ_=> ?_) λ_=> ?_|refine aG trivial @wR ?_|exact aF trivial @wR|fail
 all_goals(simp_all[yI,cj];try exact ch)
end Go.Proofs.Q
