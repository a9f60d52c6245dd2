/- Lemmas. -/
import Derived.Test.YtikhfhjohjfamaaGreatDoorPAJ
import Derived.Test.YtikhfhjohjfamaaGreatDoorPAM
set_option linter.unusedVariables false
set_option linter.unusedSimpArgs false
set_option maxRecDepth 100000
namespace Go.Proofs.Q
open Go Go.Bb Go.RowKit Go.Proofs.Lg
open Go.Ab (D RD)
def lJ(c:az)(first:Nat):List bb->Nat->List ay
 |[],_=>[]
 |x::l,i=>yL c first i x::lJ c first l (i+1)
theorem Ey(c:az)(first:Nat): ∀(l:List bb) (i:Nat),lJ c first l i=l.mapIdx λk=>yL c first (i+k)
 |[],_=>rfl
 |x::l,i=>by
  rw[lJ,Ey c first l (i+1),List.mapIdx_cons];congr 2;funext k;rw[lq,Nat.add_comm 1 k]
theorem step2{α:Type}{f:α->List D}{b:List α}{A:α}{R rest:List α}{id sz e n m:Nat}{X:aa}{c:List aa}(d:R=b++A::rest)(hm:b.length+1=m): ∃a:List α×List aa,AV.tsl id sz (b.map f++[f A])=AV.tsl id sz (a.1.map f)/\X::aa.row e n (b.length+1)::c=X::aa.row e n a.1.length::a.2/\R=a.1++rest/\a.1.length=m:=⟨(b++[A],c),by simp,by simp,by simp[d],by simp[hm]⟩
set_option maxHeartbeats 4000000 in
theorem VD(c:az)(first:Nat)(C:first<=1000000000)(D:c.lines.length<=1000000)(w:1<=c.kind)(y:c.kind<=7):aI Tryz.prog 249 [.agg (aR c),dI first] (.sl 172 ((fK c first).map aO)):=by
 obtain hk|hk|hk|hk|hk|hk|hk:c.kind=1\/c.kind=2\/c.kind=3\/c.kind=4\/c.kind=6\/c.kind=7\/c.kind=5:=by omega
 iterate 6
  .clear w y D C;refine aL Tryz.f249 ?_ [100002,300012,300021,100022,300034,100035,300045,100046,300056,100057,300069,100070,300076,100077,300091,300099,100100,300112,300119,300126,300134,100138] [[8,2,1,6,7],[9,6,1,7,2]];refine aC @hk trivial ?_
   all_goals(simp only[fK,hk,Int.reduceEq,if_true,if_false];rfl)
 .have B:fK c first=lJ c first c.lines 0++(List.range (c.lines.length+1)).map (ra c first c.lines.length):=by
   simp only[fK,hk,Int.reduceEq,if_false,Ey,aw]
  rw[B];clear B w y;refine aL Tryz.f249 ?_ [100002,300012,300021,100022,300034,100035,300045,100046,300056,100057,300069,100070,300076,100077,300091,300099,100100,300112,300119,300126,300134,100138] [[8,2,1,6,7],[9,6,1,7,2]];refine aC @hk trivial ?_
  refine aZ.overI c.lines (λk (b:List ay)=>[(8,iN k),(6,.tsl 1 172 (b.map aO))]) (λk b=>[.cells ((ae (eM first)).map .d),.row 46 172 b.length]) (λr b=>b++lJ c first r b.length) (lJ c first c.lines 0) (λk b=>b.length=k) [] a8 aA aA rfl rfl rfl (λk b x hg p e i a u=> ?_) (λb e a u=> ?_)
  .have h:bw (b.length+1) 296=true:=by simp only[bw,decide_eq_true_eq];omega
   have g:IntKind.i64.wrap ((first:Int)+(k:Int))=(first:Int)+(k:Int):=by
    have:=bN (n:=(first:Int)+(k:Int)) (m:=first+k) a8 a8;omega
   repeat' first|refine ab (λ_=> ?_) λ_=> ?_|refine aH ?_|simp only[e,i,hg,h,g,fA,wy,qg,aE,simprocAttr,ax,aD,aB,aw]
   subst u;exact⟨b++[yL c first b.length x],by simp only[fF];rfl,by simp,by rw[a];simp[lJ],by simp⟩
  .simp[lJ]at a;subst a;obtain⟨L,A⟩: ∃L,L=lJ c first c.lines 0:=⟨_,rfl⟩
   rw[<-A]at u⊢;clear A;refine aC @e trivial ?_
   refine aZ.overI (List.range (c.lines.length+1)) (λk (b:List ay×List aa)=>[(9,iN k),(6,.tsl 1 172 (b.1.map aO))]) (λk b=>[.cells ((ae (eM first)).map .d),.row 46 172 b.1.length]++b.2) (λr b=>b.1++r.map (ra c first c.lines.length)) (L++(List.range (c.lines.length+1)).map (ra c first c.lines.length)) (λk b=>b.1.length=L.length+k) (L,[]) (by simp;omega) aA aA rfl rfl rfl (λk b x hg p e i a l=> ?_) (λb e a l=> ?_)
   .obtain⟨b,J⟩:=b;dsimp only at a l;rw[dX]at p;obtain rfl:k=x:=by rw[qK a8]at hg;simpa using hg
    have h:bw (b.length+1) 296=true:=by simp only[bw,decide_eq_true_eq];omega
    have f:decide ((k:Int)<=(c.lines.length:Int))=true:=by simp;omega
    have g:IntKind.i64.wrap ((first:Int)+(c.lines.length:Int))=(first:Int)+(c.lines.length:Int):=by
     have:=bN (n:=(first:Int)+(c.lines.length:Int)) (m:=first+c.lines.length) a8 a8;omega
    have s:IntKind.i64.wrap ((first:Int)+(c.lines.length:Int)+(k:Int))=(first:Int)+(c.lines.length:Int)+(k:Int):=by
     have:=bN (n:=(first:Int)+(c.lines.length:Int)+(k:Int)) (m:=first+c.lines.length+k) a8 a8;omega
    have t:IntKind.i64.wrap ((first:Int)+(k:Int))=(first:Int)+(k:Int):=by
     have:=bN (n:=(first:Int)+(k:Int)) (m:=first+k) a8 a8;omega
    have z:ra c first c.lines.length k={ay.zero with id:=eM (first+c.lines.length+k),kind:=6,file:=c.file,fro:=(if 0<k then eM (first+k-1)else c.after),til:=(if k<c.lines.length then eM (first+k)else c.before)}:=rfl;rw[bX,z]at a;clear z e;by_cases q:0<k
    .have v:IntKind.i64.wrap ((first:Int)+(k:Int)-1)=(first:Int)+(k:Int)-1:=by
      have:=bN (n:=(first:Int)+(k:Int)-1) (m:=first+k-1) a8 a8;omega
     have j:decide ((k:Int)>0)=true:=by simp;omega
     rw[if_pos q]at a
     repeat' first|refine ab (λ_=> ?_) λ_=> ?_|refine aG (ga @f (ga @g (ga @s (ga @t (ga @v (ga @j (ga @i (ga @h (ga @cG (ga @bB @wj)))))))))) trivial ?_|exact aF (ga @f (ga @g (ga @s (ga @t (ga @v (ga @j (ga @i (ga @h (ga @cG (ga @bB @wj)))))))))) trivial|fail
     .rw[if_pos a8]at a;exact step2 a a8
     .rw[if_neg a8]at a;exact step2 a a8
    .have j:decide ((k:Int)>0)=false:=by simp;omega
     rw[if_neg q]at a
     repeat' first|refine ab (λ_=> ?_) λ_=> ?_|refine aG (ga @f (ga @g (ga @s (ga @t (ga @j (ga @i (ga @h (ga @cG (ga @bB @wj))))))))) trivial ?_|exact aF (ga @f (ga @g (ga @s (ga @t (ga @j (ga @i (ga @h (ga @cG (ga @bB @wj))))))))) trivial|fail
     .rw[if_pos a8]at a;exact step2 a a8
     .rw[if_neg a8]at a;exact step2 a a8
   .rw[dX]at e⊢;have f:decide (((c.lines.length+1:Nat):Int)<=(c.lines.length:Int))=false:=by simp;omega
    have o:=a;rw[fi,bq]at o;refine aC @f trivial ?_
    all_goals rw[o]
theorem nY{c:az}(h:fm c=0):(1<=c.kind/\c.kind<=7)/\pY (mM c)=true/\(c.kind=5->pb c.lines=0):=by
 unfold fm at h;split at h
 .omega
 rename_i d;split at h
 .omega
 rename_i a;refine⟨by omega,by simpa using a,λb=> ?_⟩;rw[if_neg a8,if_neg a8,if_neg a8]at h;split at h
 .omega
 first|exact h|(rw[if_pos b]at h;exact h)
theorem we{c:az}(h:fm c=0):c.lines.length<=2000:=by
 obtain⟨_,a,d⟩:=nY h;by_cases b:c.kind=5
 .have:=d b;unfold pb at this;split at this
  .omega
  split at this
  .omega
  .omega
 .simp only[pY,dW,decide_eq_true_eq]at a;have:((mM c).lines.length:Int)=0:=a.2.2.2.2.2.2.2.2.1;have e:(mM c).lines=c.lines:=by simp[mM,b]
  rw[e]at this;omega
theorem ym{c:az}(h:fm c=0):c.over.length<=400:=by
 obtain⟨d,a,_⟩:=nY h;by_cases e:c.kind=5\/c.kind=1
 .simp only[pY,dW,decide_eq_true_eq]at a;have:((mM c).over.length:Int)=0:=a.2.2.2.2.2.2.2.2.2;have b:(mM c).over=c.over:=by simp only[mM];rw[if_neg a8]
  rw[b]at this;omega
 .unfold fm at h;rw[if_neg a8,if_neg (by simp[a]),if_neg a8]at h;split at h
  .omega
  rw[if_neg a8]at h;split at h
  .omega
  rw[if_neg a8]at h;split at h
  .omega
  split at h
  .omega
  omega
theorem BM{c:az}{n:Nat}(h:c.lines.length<=2000):(fK c n).length<=4001:=by
 unfold fK
 repeat' split
 all_goals(try simp)
 omega
structure GH(c:az):Prop where
 s:GG c
 over:c.over.length<=9223372036854775807
set_option maxHeartbeats 1000000 in
theorem VG(l:List az)(v: ∀c∈l,GH c)(w:l.length<=400):aI Tryz.prog 176 [.sl 139 (l.map aR)] (.tup [.sl 172 ((eH l []).1.map aO),dI (eH l []).2]):=by
 refine aL Tryz.f176 ?_ [] [[5,4,0]];refine aC trivial trivial ?_;refine aZ.overI l (λk (b:List ay)=>[(5,iN k),(4,.tsl 0 172 (b.map aO))]) (λk b=>[.row 46 172 b.length]) (λr b=>eH r b) (eH l []) (λk b=>b.length<=4001*k) [] a8 aA aA rfl rfl (by simp) (λk b x hg hk f o a t=> ?_) (λb f a t=> ?_)
 .have h:=v x (bR hg);have e:=VL x h.s;have i:=VO x b h.over;rw[eH]at a;by_cases d:fm x=0
  .rw[if_neg (by simpa using d)]at a;by_cases g:iG x b=0
   .rw[if_neg (by simpa using g)]at a;have m:=we d;have u:=BM (c:=x) (n:=b.length) m;have p:=VD x b.length a8 a8 (nY d).1.1 (nY d).1.2;have q:bw (b.length+(fK x b.length).length) 296=true:=room_le a8 a8;rw[d]at e;rw[g]at i;clear h d g
    refine aC (ga @f (ga @o (ga @hg @q))) (ga @e (ga @i @p)) ?_;exact⟨b++fK x b.length,by simp,by simp,a,by simp;omega⟩
   .rw[if_pos (by simpa using g)]at a;have j:(iG x b !=0)=true:=by simpa using g
    rw[d]at e;clear h d;refine aC (ga @f (ga @o (ga @hg @j))) (ga @e @i) ?_;rw[a];rfl
  .rw[if_pos (by simpa using d)]at a;have j:(fm x !=0)=true:=by simpa using d
   clear h;refine aC (ga @f (ga @o (ga @hg @j))) @e ?_;rw[a];rfl
 .rw[eH]at a;refine aC @f trivial ?_;rw[a]
structure Af(p:aU):Prop where
 author:p.author.size<=9223372036854775807
 chg: ∀c∈p.changes,GH c
set_option maxHeartbeats 1000000 in
theorem Lw(p:aU)(f:Af p):aI Tryz.prog 107 [.agg (br p)] (.tup [.sl 172 ((dN p).1.map aO),dI (dN p).2]):=by
 have a:=Lr p.author f.author;have b:=VI p.deps;by_cases h:p.changes.length<=400
 .have g:=VG p.changes f.chg h;have d:decide ((p.changes.length:Int)>400)=false:=by simp;omega
  have e:dN p=if isName p.author=false then([],5)else if 1000<(p.message.size:Int)then([],4)else if p.time<0\/1099511627776<p.time then([],2)else if iz p.deps≠0 then([],iz p.deps)else if(p.changes.length:Int)=0 then([],1)else eH p.changes []:=by
   unfold dN;rw[if_neg (c:=400<(p.changes.length:Int)) a8]
  rw[e];clear e f h;refine aL Tryz.f107 ?_ [100001]
  repeat' first|refine ab (λ_=> ?_) λ_=> ?_|refine aG @d (ga @a (ga @b @g)) ?_|exact aF @d (ga @a (ga @b @g))|fail
  all_goals(clear a b g;first|(simp_all;done)|(simp_all;omega)|((repeat' split)<;>simp_all<;>omega))
 .have d:decide ((p.changes.length:Int)>400)=true:=by simp;omega
  have e:dN p=if isName p.author=false then([],5)else if 1000<(p.message.size:Int)then([],4)else if p.time<0\/1099511627776<p.time then([],2)else if iz p.deps≠0 then([],iz p.deps)else if(p.changes.length:Int)=0 then([],1)else([],4):=by
   unfold dN;rw[if_pos (c:=400<(p.changes.length:Int)) a8]
  rw[e];clear e f h;refine aL Tryz.f107 ?_ [100001]
  repeat' first|refine ab (λ_=> ?_) λ_=> ?_|refine aG @d (ga @a @b) ?_|exact aF @d (ga @a @b)|fail
  all_goals(clear a b;first|(simp_all;done)|(simp_all;omega)|((repeat' split)<;>simp_all<;>omega))
structure D9(p:aU):Prop where
 deps:p.deps.length<=1000000
 chg:p.changes.length<=1000000
 kind: ∀c∈p.changes,1<=c.kind/\c.kind<=7/\c.over.length<=1000000000/\c.lines.length<=1000000000
 good:eX 6 (jQ p)
 nodes:bW 6 (jQ p)<=20000
 size:(iq 6 (jQ p)).size<=1000000000000
set_option maxHeartbeats 1000000 in
theorem VK(p:aU)(hp:D9 p):aI Tryz.prog 237 [.agg (br p)] (.tup [dS (oX p).1,dI (oX p).2]):=by
 have o:=hp.deps;have q:=hp.chg;have m:=Vq hp.good (by decide) hp.nodes hp.size;have e:=hp.kind;clear hp;refine aL Tryz.f237 ?_ [100001,100026,100042,100059] [[6,1,4,5],[7,1,5,4]];refine aC trivial trivial ?_
 refine aZ.overI p.deps (λk (b:List Sx)=>[(6,iN k),(4,.tsl 0 3 (b.map aj))]) (λk b=>[.row 307 3 b.length,.row 307 3 0]) (λr b=>b++r.map gK) (p.deps.map gK) (λk b=>b.length=k) [] a8 aA aA rfl rfl rfl (λk b x hg hk c g a d=> ?_) (λb c a d=> ?_)
 .have f:bw (b.length+1) 48=true:=by simp only[bw,decide_eq_true_eq];omega
  refine aC (ga @c (ga @g (ga @hg @f))) @Lx ?_;exact⟨b++[gK x],by simp,by simp,by simpa using a,by simp[d]⟩
 .simp at a;subst a;refine aC @c trivial ?_;refine aZ.overI p.changes (λk (b:List Sx)=>[(7,iN k),(5,.tsl 1 3 (b.map aj))]) (λk b=>[.row 307 3 p.deps.length,.row 307 3 b.length]) (λr b=>b++r.map cD) (p.changes.map cD) (λk b=>b.length=k) [] a8 aA aA rfl rfl rfl (λk b x hg hk c g a d=> ?_) (λb c a d=> ?_)
  .have f:bw (b.length+1) 48=true:=by simp only[bw,decide_eq_true_eq];omega
   obtain⟨h,i,j,l⟩:=e x (bR hg);have n:=VF x h i j l;clear h i j l;refine aC (ga @c (ga @g (ga @hg @f))) @n ?_;exact⟨b++[cD x],by simp,by simp,by simpa using a,by simp[d]⟩
  .simp at a;subst a
   repeat' first|refine ab (λ_=> ?_) λ_=> ?_|refine aH ?_|refine af.data (wP _) rfl ?_|refine af.data (rF _) rfl ?_|refine af.data (uI _) rfl ?_|refine af.data (SY _ _ _ _ _ _) rfl ?_|refine af.data (m) rfl ?_|simp only[c,bne_self_eq_false,wy,qg,aE,simprocAttr,ax,aD,aB,aw]
   all_goals(unfold oX jM;first|(rw[if_pos a8];done)|(rw[if_neg a8];done))
structure bS(p:aU):Prop where
 z:Af p
 enc:(dN p).2=0->D9 p
theorem Lt(p:aU)(b:bS p):aI Tryz.prog 165 [.agg (br p)] (.tup [dS (cQ p).1,dI (cQ p).2]):=by
 have a:=Lw p b.z;unfold cQ;by_cases h:(dN p).2=0
 .have c:=VK p (b.enc h);rw[h]at a;rw[if_neg (by simpa using h)];clear h;refine aL Tryz.f165 ?_ [100001];exact bL trivial (ga @a @c)
 .have d:((dN p).2 !=0)=true:=by simpa using h
  rw[if_pos h];refine aL Tryz.f165 ?_ [100001];exact bL @d @a
theorem F9(p:aU)(b:bS p):aI Tryz.prog 97 [.agg (br p)] (dI (gj p)):=by
 have a:=Lt p b;refine aL Tryz.f97 ?_ [100001];refine aC trivial @a ?_
 all_goals rfl
theorem tj(x:ak)(d:Dg):aI Tryz.prog 108 [.agg (ae x),.agg (au d)] (.agg (ae (whole x d))):=by
 refine aL Tryz.f108 ?_ [100003]
 repeat' first|refine ab (λ_=> ?_) λ_=> ?_|refine aG trivial @lQ ?_|exact aF trivial @lQ|fail
 all_goals(unfold whole;first|(rw[if_pos (by simp_all)];done)|(rw[if_neg (by simp_all)];done))
theorem NC(x:Dg): ∀(l:List Dg) (k:Nat),k<=kX x l k/\kX x l k<=k+l.length
 |[],k=>by simp[kX]
 |y::l,k=>by
  unfold kX;split
  .have:=NC x l (k+1);simp only[aY];omega
  .simp
theorem Gz{l:List Dg}{x:Dg}{k:Nat}(h:kX x l 0=k):lY l x=if l[k]?=some x then l else l.take k++x::l.drop k:=by unfold lY;rw[h]
theorem CU(l:List Dg)(x:Dg):(lY l x).length<=l.length+1:=by
 unfold lY;split
 .omega
 .have:=NC x l 0;simp;omega
theorem wS(x:Dg)(l:List AV)(h:l.length=32):ba l 0 32 ((au x).map .d)=some ((au x).map .d):=iE h (by rw[aM,b9])
theorem C6(l:List Dg)(z:Dg)(o:l.length<=1000000000):aI Tryz.prog 171 [.sl 32 (l.map au),.agg (au z)] (.sl 32 ((lY l z).map au)):=by
 refine aL Tryz.f171 ?_ [100003,100042] [[5,3,0]];refine aC trivial trivial ?_;refine aZ.over l (λk (_:Unit)=>[(5,iN k)]) (λ_ _=>[]) (λr _=>kX z r (l.length-r.length)) (kX z l 0) () a8 aA aA rfl (by simp) (λk _ x hg hk e j a=> ?_) (λ_ e a=> ?_)
 .have i:l.length-(x::l.drop (k+1)).length=k:=by simp only[aY,ax];omega
  have n:l.length-(l.drop (k+1)).length=k+1:=by simp only[ax];omega
  rw[i,kX]at a;have f:(k:Int)<=(l.length:Int):=by omega
  have g:bw (l.take k).length 32=true:=by simp only[bw,decide_eq_true_eq,cC];omega
  have r2:bw ((l.take k).length+1) 32=true:=by simp only[bw,decide_eq_true_eq,cC];omega
  have m:bw ((l.take k).length+1+(l.length-k)) 32=true:=by simp only[bw,decide_eq_true_eq,cC];omega
  repeat' first|refine ab (λ_=> ?_) λ_=> ?_|refine aH ?_|refine af.data (ow _ _) rfl ?_|simp only[e,j,hg,f,g,r2,m,wS,aM,b9,l9,la,qL,wy,qg,aE,simprocAttr,ax,aD,aB,aw]
  .rename_i h;rw[if_pos h]at a;exact⟨(),by rw[a];congr 1;omega⟩
  .rename_i b c;rw[if_neg b]at a;rw[Gz a,hg,if_pos (by rw[c])]
  .rename_i b c;rw[if_neg b]at a;rw[Gz a,hg,if_neg (by simpa using c)];simp[tt]
 .have f:bw l.length 32=true:=by simp only[bw,decide_eq_true_eq];omega
  have g:bw (l.length+1) 32=true:=by simp only[bw,decide_eq_true_eq];omega
  have d:kX z l 0=l.length:=by rw[a];simp[kX]
  repeat' first|refine ab (λ_=> ?_) λ_=> ?_|refine aH ?_|simp only[e,f,g,wS,aM,b9,l9,la,qL,vp,jc,wy,qg,aE,simprocAttr,ax,aD,aB,aw]
  rw[Gz d,iO (bg _),if_neg (by simp)];simp
theorem G0{α:Type}[DecidableEq α]: ∀(a b:List α),a.length=b.length->j8 (a.zip b)=decide (a=b)
 |[],[],_=>rfl
 |x::a,y::b,h=>by
  rw[oK,j8,G0 a b (by simpa using h)];by_cases e:x=y
  .subst e;simp
  .simp[e]
 |[],_::_,h=>by simp at h
 |_::_,[],h=>by simp at h
theorem Cv{α:Type}[DecidableEq α](a b:List α):same a b=decide (a=b):=by
 unfold same;split
 .rename_i h;exact G0 a b h
 .rename_i h;symm;simp;intro e;exact h (by rw[e])
theorem VE(a b:List ak):aI Tryz.prog 58 [.sl 33 (a.map ae),.sl 33 (b.map ae)] (dB (decide (a=b))):=by
 rw[<-Cv];refine aI.big (kM (by kernel_rfl)) 0 rfl λi=> ?_;rw[aM]at i;refine aL Tryz.f58 ?_ [] [[5,1,0]]
 repeat' first|refine ab (λ_=> ?_) λ_=> ?_|refine aG trivial trivial ?_|exact aF trivial trivial|fail
 .all_goals(simp_all[same,cj];try exact ch)
 .rename_i h0;have c:a.length=b.length:=by simp at h0;omega
  refine aZ.over (a.zip b) (λk (_:Unit)=>[(5,iN k)]) (λ_ _=>[]) (λl _=>j8 l) (same a b) () (by simp[c];omega) aA aA rfl (by simp[same,c]) (λk _ x hg hk h f g=> ?_) (λ_ h g=> ?_)
  .obtain⟨d,e⟩:=tN hg;have hk:(k:Int)<(a.length:Int):=by have:=(aV.1 d).1;omega
   repeat' first|refine ab (λ_=> ?_) λ_=> ?_|refine aG (ga @d (ga @e (ga @hk @f))) trivial ?_|exact aF (ga @d (ga @e (ga @hk @f))) trivial|fail
   all_goals(simp_all[j8,cj];try exact ch)
  .have hk:((a.zip b).length:Int)=a.length:=by simp[c]
   refine aC @hk trivial ?_
   all_goals(simp_all[j8,cj];try exact ch)
theorem az.eq_iff(a b:az):a=b↔a.kind=b.kind/\a.file=b.file/\a.type=b.type/\a.parent=b.parent/\a.name=b.name/\a.mode=b.mode/\a.data=b.data/\a.after=b.after/\a.before=b.before/\a.lines=b.lines/\a.over=b.over:=by
 cases a;cases b;simp only[az.mk.injEq]
theorem aU.eq_iff(a b:aU):a=b↔a.author=b.author/\a.message=b.message/\a.time=b.time/\a.deps=b.deps/\a.changes=b.changes:=by
 cases a;cases b;simp only[aU.mk.injEq]
set_option maxHeartbeats 2000000 in
theorem Lu(a b:az):aI Tryz.prog 100 [.agg (aR a),.agg (aR b)] (dB (decide (a=b))):=by
 have c:=Vz a.lines b.lines;have d:=VE a.over b.over;rw[Cv]at c;have f:=az.eq_iff a b;obtain⟨R,e⟩: ∃R,R=decide (a=b):=⟨_,rfl⟩
 rw[<-e];refine aL Tryz.f100 ?_ [100002,100003]
 repeat' first|refine ab (λ_=> ?_) λ_=> ?_|refine aG @mq (ga @c @d) ?_|exact aF @mq (ga @c @d)|fail
 all_goals(clear c d;rw[e];simp_all)
set_option maxHeartbeats 2000000 in
theorem Fc(a b:aU)(hb:a.changes.length<=9223372036854775807):aI Tryz.prog 38 [.agg (br a),.agg (br b)] (dB (decide (a=b))):=by
 have f:=Vs a.deps b.deps;rw[Cv]at f;have n:=aU.eq_iff a b;obtain⟨R,d⟩: ∃R,R=decide (a=b):=⟨_,rfl⟩
 rw[<-d];refine aL Tryz.f38 ?_ [100002,100003] [[5,3,2]]
 repeat' first|refine ab (λ_=> ?_) λ_=> ?_|refine aG @mq @f ?_|exact aF @mq @f|fail
 .clear f;rw[d];simp_all
 .clear f;rw[d];simp_all
 .clear f;rw[d];simp_all
 .clear f;rw[d];symm;rw[decide_eq_false_iff_not];rename_i h;intro e;subst e;simp at h
 .rename_i p q j r s;have c:a.changes.length=b.changes.length:=by simp at s;omega
  have g:R=j8 (a.changes.zip b.changes):=by
   rw[G0 _ _ c,d];simp at j;simp only[n,p,q,j,r,true_and]
  .refine aZ.over (a.changes.zip b.changes) (λk (_:Unit)=>[(5,iN k)]) (λ_ _=>[]) (λl _=>j8 l) R () (by simp[c];omega) aA aA rfl g (λk _ x hg hk t o d=> ?_) (λ_ t d=> ?_)
   .obtain⟨i,m⟩:=tN hg;have hk:(k:Int)<(a.changes.length:Int):=by have:=(aV.1 i).1;omega
    rw[j8]at d;clear n g f
    repeat' first|refine ab (λ_=> ?_) λ_=> ?_|refine aG (ga @i (ga @m (ga @hk @o))) @Lu ?_|exact aF (ga @i (ga @m (ga @hk @o))) @Lu|fail
    all_goals(simp_all[j8,cj];try exact ch)
   .have hk:((a.changes.zip b.changes).length:Int)=a.changes.length:=by simp[c]
    refine aC @hk trivial ?_
    all_goals(simp_all[j8,cj];try exact ch)
 .clear f;rw[d];simp_all
set_option maxHeartbeats 2000000 in
theorem VC(p:aU)(hb:p.changes.length<=9223372036854775807):aI Tryz.prog 49 [.agg (br p)] (dB (lH p)):=by
 refine aL Tryz.f49 ?_ [100001] [[3,4,1]];refine aC trivial trivial ?_;refine aZ.over p.changes (λk (b:Int×List aa)=>[(4,iN k),(3,.d (.sc (.int .i64 b.1)))]) (λ_ b=>b.2) (λl b=>sI l b.1) (sI p.changes (W (p.author.size+p.message.size))) (W (p.author.size+p.message.size),[]) hb aA aA rfl rfl (λk b x hg hk c e a=> ?_) (λb c a=> ?_)
 .obtain⟨n,J⟩:=b;rw[sI]at a;dsimp only at a
  repeat' first|refine ab (λ_=> ?_) λ_=> ?_|refine aG (ga @c (ga @e (ga @hg (ga @gF (ga @dV @wj))))) @Lo ?_|exact aF (ga @c (ga @e (ga @hg (ga @gF (ga @dV @wj))))) @Lo|fail
  .rename_i h;rw[lH,a,if_pos (.inl h)]
  .rename_i h;rw[lH,a,if_pos (.inr a8)]
  .rename_i f g;rw[if_neg (by
    rintro(h|h); · simp[f]at h
    .omega)]at a
   exact⟨(_,_),rfl,rfl,a⟩
 .obtain⟨n,J⟩:=b;rw[sI]at a;dsimp only at a
  repeat' first|refine ab (λ_=> ?_) λ_=> ?_|refine aG @c trivial ?_|exact aF @c trivial|fail
  all_goals(simp only[lH,a];simp_all;try omega)
theorem VB(p:aU)(i:bS p)(hb:p.changes.length<=9223372036854775807):aI Tryz.prog 95 [.agg (br p)] (dI (yg p)):=by
 have e:=F9 p i;unfold yg;by_cases h:gj p=0
 .rw[if_neg (by simpa using h)];rw[h]at e;refine aL Tryz.f95 ?_ [100001] [[4,1,3]]
  repeat' first|refine ab (λ_=> ?_) λ_=> ?_|refine aH ?_|refine af.data (e) rfl ?_|simp only[bne_self_eq_false,wy,qg,aE,simprocAttr,ax,aD,aB,aw]
  refine aZ.over p.changes (λk (n:Int)=>[(4,iN k),(3,.d (.sc (.int .i64 n)))]) (λ_ b=>[]) (λl n=>l.foldl (λn c=>W (n+sC c)) n) (p.changes.foldl (λn c=>W (n+sC c)) 0) 0 hb aA aA rfl rfl (λk b x hg hk f j a=> ?_) (λb f a=> ?_)
  .rw[ig]at a
   repeat' first|refine ab (λ_=> ?_) λ_=> ?_|refine aH ?_|refine af.data (VH _) rfl ?_|simp only[f,j,hg,wy,qg,aE,simprocAttr,ax,aD,aB,aw]
   exact a
  .rw[tT]at a
   repeat' first|refine ab (λ_=> ?_) λ_=> ?_|refine aH ?_|simp only[f,wy,qg,aE,simprocAttr,ax,aD,aB,aw]
   rw[a]
 .have g:(gj p !=0)=true:=by simpa using h
  rw[if_pos h];refine aL Tryz.f95 ?_ [100001] [[4,1,3]]
  repeat' first|refine ab (λ_=> ?_) λ_=> ?_|refine aH ?_|refine af.data (e) rfl ?_|simp only[g,wy,qg,aE,simprocAttr,ax,aD,aB,aw]
theorem IG(p:aU):(cQ p).1.size<=65536:=by
 unfold cQ oX;split
 .exact fG _
 .split
  .exact fG _
  .rename_i h;exact Nat.le_of_not_lt h
theorem vQ{p:aU}(h:gj p=0):(dN p).2=0:=by
 unfold gj cQ at h;split at h
 .assumption
 .rename_i a;simpa using a
theorem HK: ∀{l:List az} {own:List ay},(eH l own).2=0-> ∀c∈l,fm c=0
 |[],_,_,c,hc=>by cases hc
 |x::l,own,h,c,hc=>by
  rw[eH]at h;split at h
  .rename_i a;exact absurd h a
  split at h
  .rename_i a;exact absurd h a
  rename_i a b;rcases bF.1 hc with rfl|hc
  .simpa using a
  .exact HK h c hc
theorem Te{c:az}{n:Nat}(h:c.over.length<=400): ∀x∈fK c n,x.over.length<=400:=by
 intro x a;unfold fK at a
 repeat' split at a
 all_goals first
  |(rw[jH]at a;subst a;first|exact h|exact fG _)
  |skip
 rcases fk.1 a with a|a
 .obtain⟨i,_,rfl⟩:=List.mem_mapIdx.1 a;exact fG _
 .obtain⟨i,_,rfl⟩:=bM.1 a;exact fG _
theorem DJ: ∀{l:List az} {own:List ay},(∀x∈own,x.over.length<=400)-> ∀x∈(eH l own).1,x.over.length<=400
 |[],_,h,x,a=>h x a
 |c::l,own,h,x,a=>by
  rw[eH]at a;split at a
  .cases a
  rename_i d;split at a
  .cases a
  refine DJ (l:=l) (own:=own++fK c own.length) (λy b=> ?_) x a;rcases fk.1 b with b|b
  .exact h y b
  .exact Te (ym (by simpa using d)) y b
theorem AM: ∀{l:List az} {own:List ay},(eH l own).1.length<=own.length+4001*l.length
 |[],own=>by simp[eH]
 |c::l,own=>by
  rw[eH];split
  .simp
  rename_i a;split
  .simp
  have:=AM (l:=l) (own:=own++fK c own.length);have b:=BM (c:=c) (n:=own.length) (we (by simpa using a));simp only[aQ,aY]at*;omega
theorem jx{p:aU}(h:(dN p).2=0):p.deps.length<=100/\p.changes.length<=400/\(∀c∈p.changes,fm c=0)/\dN p=eH p.changes []/\isName p.author=true/\p.message.size<=1000/\0<=p.time/\p.time<=1099511627776:=by
 unfold dN at h⊢;split at h
 .cases h
 split at h
 .cases h
 split at h
 .cases h
 split at h
 .rename_i d;exact absurd h d
 split at h
 .cases h
 split at h
 .cases h
 rename_i a a2 a3 a4 a5 b;refine⟨?_,by omega,HK h,?_,by simpa using a,by omega,by omega,by omega⟩
 .simp only[ne_eq,Decidable.not_not]at a4;unfold iz at a4;split at a4
  .cases a4
  .omega
 .rw[if_neg a,if_neg a2,if_neg a3,if_neg a4,if_neg a5,if_neg b]
theorem Fa(p:aU)(d:bS p):aI Tryz.prog 101 [.agg (br p)] (.tup [.agg (au (bj aq p).1),dI (bj aq p).2]):=by
 have a:=Lt p d;have b:=Vt (cQ p).1 (by have:=IG p;omega);unfold bj;by_cases h:(cQ p).2=0
 .rw[h]at a;rw[if_neg (by simpa using h)];clear h;refine aL Tryz.f101 ?_ [100001,300013];exact bL (ga @fy @b9) (ga @a @b)
 .have c:((cQ p).2 !=0)=true:=by simpa using h
  rw[if_pos h];refine aL Tryz.f101 ?_ [100001,300013];exact bL (ga @c (ga @fy @b9)) @a
theorem NF: ∀(r:List ak) (b:List Dg),(nL r b).length<=b.length+r.length
 |[],b=>bg _
 |x::r,b=>by
  rw[nL];have a:=NF r (if isZero x.p then b else lY b x.p);have d:=CU b x.p;rw[aY];by_cases c:isZero x.p=true
  .rw[if_pos c]at a⊢;omega
  .rw[if_neg c]at a⊢;omega
set_option maxHeartbeats 2000000 in
theorem za(p:aU)(D:bS p):aI Tryz.prog 104 [.agg (br p)] (.sl 32 ((bu p).map au)):=by
 have s:=F9 p D;unfold bu;by_cases h:gj p=0
 .rw[if_neg (by simpa using h)];rw[h]at s;obtain⟨E,B,u,_⟩:=jx (vQ h);clear h;refine aL Tryz.f104 ?_ [100001,100009] [[4,1,3],[5,3,1],[8,7,3,5,1]];refine aC trivial @s ?_
  refine aZ.overI p.deps (λk (b:List Dg)=>[(4,iN k),(3,.d (.sl 32 (b.map au)))]) (λ_ _=>[]) (λr b=>gZ r b) (gZ p.deps []) (λk b=>b.length<=k) [] a8 aA aA rfl rfl (by simp) (λk b x hg hk a o e l=> ?_) (λb a e l=> ?_)
  .have j:=C6 b x a8;have w:=CU b x;rw[gZ]at e;refine aC (ga @a (ga @o @hg)) @j ?_;exact⟨_,rfl,e,by omega⟩
  .rw[gZ]at e;rw[e];clear e;refine aC @a trivial ?_;refine aZ.overI p.changes (λk (b:List Dg×List aa)=>[(5,iN k),(3,.d (.sl 32 (b.1.map au)))]) (λ_ b=>b.2) (λr b=>oq r b.1) (oq p.changes b) (λk b=>b.1.length<=100+404*k) (b,[]) a8 aA aA rfl rfl (by simp;omega) (λk b x hg hk a o e l=> ?_) (λb a e l=> ?_)
   .obtain⟨b,J⟩:=b;have C:=ym (u x (bR hg));have g:bw (4+x.over.length) 40=true:=room_le a8 a8;dsimp only at e l;rw[oq]at e;refine aC (ga @a (ga @o (ga @hg (ga @gF (ga @dV (ga @g @wj)))))) trivial ?_;obtain⟨L,n⟩: ∃L,L=iV x:=⟨_,rfl⟩
    have f:(ae x.file::ae x.parent::ae x.after::ae x.before::List.map ae x.over)=L.map ae:=by rw[n];rfl
    have A:L.length=4+x.over.length:=by rw[n];simp[iV];omega
    rw[<-n]at e;rw[f];clear n f g hg a;refine aZ.overI L (λk (b:List Dg)=>[(8,iN k),(3,.d (.sl 32 (b.map au)))]) (λ_ _=>J++[.cells ((aR x).map .d),.row 32 33 (4+x.over.length)]) (λr b=>nL r b) (nL L b) (λm b=>b.length<=100+404*k+m) b a8 aA aA rfl rfl a8 (λm b y hg hm a i c t=> ?_) (λb a c t=> ?_)
    .rw[nL]at c;have j:=C6 b y.p a8;have w:=CU b y.p;by_cases q:isZero y.p=true
     .rw[if_pos q]at c;clear j w;refine aC (ga @a (ga @i (ga @hg @q))) @lQ ?_;exact⟨_,rfl,c,by omega⟩
     .have v:isZero y.p=false:=by simpa using q
      rw[if_neg q]at c;refine aC (ga @a (ga @i (ga @hg @v))) (ga @lQ @j) ?_;exact⟨_,rfl,c,by omega⟩
    .rw[nL]at c;rw[c]at e;refine aC (ga @a @o) trivial ?_;exact⟨(_,_),rfl,rfl,e,by dsimp only;omega⟩
   .rw[oq]at e;refine aC @a trivial ?_;rw[e]
 .have z:(gj p !=0)=true:=by simpa using h
  rw[if_pos h];refine aL Tryz.f104 ?_ [100001,100009] [[4,1,3],[5,3,1],[8,7,3,5,1]];exact bL @z @s
end Go.Proofs.Q
