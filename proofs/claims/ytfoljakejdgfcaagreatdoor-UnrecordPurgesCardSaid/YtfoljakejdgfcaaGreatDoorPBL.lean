/- Part of a proof. -/
import Derived.Test.YtfoljakejdgfcaaGreatDoorPBJ
import Derived.Test.YtfoljakejdgfcaaGreatDoorPBK
set_option linter.unusedVariables false
set_option linter.unusedSimpArgs false
namespace Go.Proofs.Q
open Go Go.Bb Go.RowKit Go.Proofs.Lg
open Go.Ab (D RD)
theorem Bq(first n:Nat)(h:first+n≤1000000000):aE Tryz.prog 183 [dI n,.ref [dI first]] (.agg (ab (dL ((first+n:Nat):Int)))):=by
 have a:IntKind.i64.wrap ((first:Int)+(n:Int))=((first+n:Nat):Int):=lT a8 a8;refine aI (F:=zp) Sc (by simp[zp]) ?_;simp only[zp];refine aw (ga @a (ga @fS (ga @aM @wj))) trivial ?_
 all_goals rfl
theorem MB(P:Program)(l:List CO)(K:Fr→List aa→List Nat→Prop)(a:List Nat)(fr:Fr)(s:List aa)(m t:Nat):df P l K a fr (some t) m s (.d (.sc .nilFunc))=bH P l K (m::a) ((t,.d (.sc .nilFunc))::fr) s:=propext dj
theorem Up(c:af)(first:Nat)(s:List aa):aT Tryz.prog 133 [.d (.agg (aQ c)),.d (dI first)] s fun d a=>d= .clo 182 [] [.d (.ref [dI first]),.d (.ref (aQ c))]∧a=s:=by
 refine aT.of (F:=zo) Sb (by simp[zo]) ?_;simp only[zo];exact bx (ga @MB @wj) trivial
 all_goals first|rfl|exact⟨rfl,rfl⟩
def gH(base:Nat)(s b:List aa):Prop:= ∀j a,base≤j→s[j]?=some (.cells a)→b[j]?=some (.cells a)
set_option maxHeartbeats 4000000 in
theorem Uo(c:af)(first i base:Nat)(S:List aJ→List aa→Prop)(X:1≤c.kind)(Y:c.kind≤7)(hf:first≤1000000)(hl:c.lines.length≤2000)
  (u: ∀l s o,S l s→S l (s++[o])) (H: ∀l s j cs t,S l s→base≤j→s[j]?=some (.cells cs)→S l (s.set j (.cells t))) (p: ∀l s,S l s→base≤s.length)
  (hround: ∀(l:List aJ) (x:aJ) (s:List aa) (K:AV→List aa→Prop),S l s→l.length≤4001→(∀y,S (l++[x]) y→gH base s y→K (.d (dB true)) y)→gh Tryz.prog i [.d (.agg (aO x))] s K)
  (s:List aa) (R:S [] s):aT Tryz.prog 182 [.yld i,.d (.ref [dI first]),.d (.ref (aQ c))] s fun d y=>d=vT∧S (fF c first) y:=by
 have T:=Bq first 0 a8;rw[ay]at T;obtain v|v|v|v|v|v|v:c.kind=1∨c.kind=2∨c.kind=3∨c.kind=4∨c.kind=6∨c.kind=7∨c.kind=5:=by omega
 iterate 6
  ·clear X Y hl hf;refine aT.of (F:=rG) IX (by simp[rG]) ?_;simp only[rG]
   repeat' first|refine ak (fun _=> ?_) fun _=> ?_|refine aj.yld (hround _ _ _ _ R (fM _) (fun y I e=> ?_))|refine bb (ga @v @wj) @T ?_|exact ba (ga @v @wj) @T|fail
   all_goals(unfold fF;simp only[v,Int.reduceEq,if_true,if_false];exact I)
 ·have hX:fF c first=jC c first c.lines 0++(List.range (c.lines.length+1)).map (oC c first c.lines.length):=by
   simp only[fF,v,Int.reduceEq,if_false,DE,au]
  rw[hX];clear hX X Y;refine aT.of (F:=rG) IX (by simp[rG]) ?_;simp only[rG];refine aw (ga @v @wj) trivial ?_
  refine aX.overI c.lines (fun k (b:List aJ×List aa)=>[(95,iN k)]) (fun _ b=>b.2) (fun r b=>b.1++jC c first r b.1.length) (jC c first c.lines 0) (fun k b=>S b.1 b.2∧b.1.length=k) ([],s) a8 aA aA rfl rfl ⟨R,rfl⟩ (fun k b x hg e n D f a=> ?_) (fun b n f a=> ?_)
  ·obtain⟨l,s⟩:=b;obtain⟨a,w⟩:=a;dsimp only at f a w;have O:=Bq first k a8;clear R;subst w
   repeat' first|refine ak (fun _=> ?_) fun _=> ?_|refine aj.yld (hround l _ _ _ a a8 (fun y I e=> ?_))|refine bb (ga @n (ga @D (ga @hg (ga @eG.eq_1 @wj)))) @O ?_|exact ba (ga @n (ga @D (ga @hg (ga @eG.eq_1 @wj)))) @O|fail
   exact⟨(l++[vE c first l.length x],y),rfl,by simpa[jC]using f,I,by simp⟩
  ·obtain⟨l,s⟩:=b;obtain⟨a,w⟩:=a;dsimp only at f a w;simp only[jC,bg]at f;subst f;have w1:IntKind.i64.wrap ((c.lines.length:Int)+1)=((c.lines.length+1:Nat):Int):=lT a8 a8;refine aw (ga @n (ga @w1 (ga @fS (ga @aM @wj)))) trivial ?_;obtain⟨E,C⟩: ∃E,E=s.length:=⟨_,rfl⟩
   have A:base≤E:=by rw[C];exact p _ _ a
   have z:=u _ _ (aa.cells (List.map AV.d (ab c.after))) a;have g:(s++[aa.cells (List.map AV.d (ab c.after))])[E]?=some (.cells ((ab (if 0<0 then dL (first+0-1)else c.after)).map .d)):=by rw[C];simp
   rw[←C];obtain⟨L,hL⟩: ∃L,L=jC c first c.lines 0:=⟨_,rfl⟩
   rw[←hL]at z w⊢;generalize s++[aa.cells (List.map AV.d (ab c.after))]=s1 at z g⊢;clear a hL C R w1 T n
   refine aX.overI (List.range (c.lines.length+1)) (fun k (b:List aJ×List aa)=>[(118,iN k)]) (fun _ b=>b.2) (fun r b=>b.1++r.map (oC c first c.lines.length)) (L++(List.range (c.lines.length+1)).map (oC c first c.lines.length)) (fun k b=>S b.1 b.2∧b.1.length=c.lines.length+k∧(k≤c.lines.length→b.2[E]?=some (.cells ((ab (if 0<k then dL (first+k-1)else c.after)).map .d)))) (L,s1) (by simp;omega) aA (by simp only[dX,wy,qg,aC,reduceCtorEq,reduceIte,Nat.reduceAdd,Nat.reduceMul,Nat.reduceEqDiff,Nat.reduceLT,Nat.reduceLeDiff,Nat.reduceSub,ax,aB,ay,au];try rfl) rfl rfl ⟨z,by omega,fun _=>g⟩ (fun k b x hg e n D f a=> ?_) (fun b n f a=> ?_)
   ·obtain⟨l,s⟩:=b;obtain⟨a,G,g⟩:=a;dsimp only at f a G g;rw[dX]at e n;have g:=g a8;obtain rfl:k=x:=by rw[nV a8]at hg;simpa using hg
    have U:=Bq first (c.lines.length+k) a8;have O:=Bq first k a8;have V:IntKind.i64.wrap ((c.lines.length:Int)+(k:Int))=((c.lines.length+k:Nat):Int):=lT a8 a8
    have Z:oC c first c.lines.length k={aJ.zero with id:=dL (first+c.lines.length+k),kind:=6,file:=c.file,fro:=(if 0<k then dL (first+k-1)else c.after),til:=(if k<c.lines.length then dL (first+k)else c.before)}:=rfl;rw[bO,Z]at f;clear Z z;obtain⟨fr,W⟩: ∃fr,fr=(if 0<k then dL (first+k-1)else c.after):=⟨_,rfl⟩
    rw[←W]at g f;have h8J:=bP g;by_cases B:k<c.lines.length
    ·rw[if_pos B]at f;have P:decide ((k:Int)<(c.lines.length:Int))=true:=by simpa using B
     have N:=u _ _ (aa.cells (List.map AV.d (ab (dL ((first+k:Nat):Int))))) a
     repeat' first|refine ak (fun _=> ?_) fun _=> ?_|refine aj.yld (hround l _ _ _ N a8 (fun y I e=> ?_))|refine bb (ga @n (ga @D (ga @P (ga @V (ga @g (ga @h8J (ga @fS (ga @aM @wj)))))))) (ga @O @U) ?_|exact ba (ga @n (ga @D (ga @P (ga @V (ga @g (ga @h8J (ga @fS (ga @aM @wj)))))))) (ga @O @U)|fail
     have J:=e s.length _ (p _ _ a) (List.getElem?_concat_length ..);have q:=e E _ A (h8J _);have a0:=p _ _ a;have m:=fun t=>H _ _ E _ t I A q;clear g h8J;have M:(dL (((first+(c.lines.length+k):Nat)):Int))=dL ((first:Int)+(c.lines.length:Int)+(k:Int)):=by unfold dL;congr 1;omega
     have Q:=(aR.1 q).1;refine aw (ga @D (ga @J (ga @q (ga @fS (ga @aM @wj))))) trivial ?_;refine⟨(_,_),rfl,?_,m _,by simp;omega,fun _=> ?_⟩
     ·simp only[bj,List.singleton_append];rw[f,M];simp
     ·rw[ey,if_pos rfl,if_pos Q];rw[if_pos a8];congr 5;omega
    ·rw[if_neg B]at f;have P:decide ((k:Int)<(c.lines.length:Int))=false:=by simpa using B
     have N:=u _ _ (aa.cells (List.map AV.d (ab c.before))) a
     repeat' first|refine ak (fun _=> ?_) fun _=> ?_|refine aj.yld (hround l _ _ _ N a8 (fun y I e=> ?_))|refine bb (ga @n (ga @D (ga @P (ga @V (ga @g (ga @h8J (ga @fS (ga @aM @wj)))))))) (ga @O @U) ?_|exact ba (ga @n (ga @D (ga @P (ga @V (ga @g (ga @h8J (ga @fS (ga @aM @wj)))))))) (ga @O @U)|fail
     have J:=e s.length _ (p _ _ a) (List.getElem?_concat_length ..);have q:=e E _ A (h8J _);have m:=fun t=>H _ _ E _ t I A q;clear g h8J;have M:(dL (((first+(c.lines.length+k):Nat)):Int))=dL ((first:Int)+(c.lines.length:Int)+(k:Int)):=by unfold dL;congr 1;omega
     refine aw (ga @D (ga @J (ga @q (ga @fS (ga @aM @wj))))) trivial ?_;refine⟨(_,_),rfl,?_,m _,by simp;omega,fun h=>by omega⟩;simp only[bj,List.singleton_append];rw[f,M]
   ·obtain⟨l,s⟩:=b;obtain⟨a,G,g⟩:=a;dsimp only at f a;rw[dX]at n;rw[eg,bg]at f;rw[f];refine aw @n trivial ?_
    all_goals exact a
def ov(s:aP)(ids:List Dg):List Dg:=ids++s.flatMap fun x=>bB x.pat
theorem Qp:bB .zero=[]:=by
 unfold bB;rw[if_pos];unfold iD dK;rw[if_pos (by rw[CZ];decide),CZ];decide
theorem Qr(s:aP)(d:Dg): ∀x∈bB ((bM s d).getD .zero),∃y∈s,x∈bB y.pat:=by
 induction s with
 |nil=>intro x a;rw[show(bM [] d).getD .zero=b9.zero from rfl,Qp]at a;cases a
 |cons y s e=>
  intro x a;unfold bM at a;split at a
  ·exact⟨y,by simp,a⟩
  ·obtain⟨z,b,c⟩:=e x a;exact⟨z,jS _ b,c⟩
theorem Qq{s:aP}{ids:List Dg}{d:Dg}: ∀x∈bB ((bM s d).getD .zero),x∈ov s ids:=by
 intro x c;obtain⟨y,a,b⟩:=Qr s d x c;exact fL.2 (.inr (List.mem_flatMap.2 ⟨y,a,b⟩))
theorem IA(p:b9):(bB p).length≤161700:=by
 unfold bB;split
 ·simp
 ·rename_i h;obtain⟨i,j,f,_⟩:=mY (uT (p:=p) (by simpa using h));have b: ∀(r l:List Dg),(fu r l).length≤l.length+r.length:=by
   intro r
   induction r with
   |nil=>intro l;exact bh _
   |cons d r a=>intro l;rw[fu];have:=a (jK l d);have:=wK l d;rw[aU];omega
  have e: ∀(r:List af) (l:List Dg),(∀c∈r,gm c=0)→(lG r l).length≤l.length+404*r.length:=by
   intro r
   induction r with
   |nil=>intro l _;exact bh _
   |cons c r a=>
    intro l hc;rw[lG];have:=a (l8 (lN c) l) fun x g=>hc x (jS _ g);have:=LV (lN c) l;have:=vg (hc c (by simp));have:(lN c).length=c.over.length+4:=rfl;rw[aU];omega
  have:=b p.deps [];have:=e p.changes (fu p.deps []) f;simp at*;omega
theorem N5{s:aP}{ids:List Dg}:(ov s ids).length≤ids.length+161700*s.length:=by
 unfold ov;rw[aN];have:(s.flatMap fun x=>bB x.pat).length≤161700*s.length:=by
  induction s with
  |nil=>simp
  |cons x s a=>rw[nU,aN,aU];have:=IA x.pat;omega
 omega
set_option maxHeartbeats 4000000 in
theorem Vg(s:aP)(ids:List Dg)(W:iC s)(X:s.length≤1000)(V:ids.length≤1000000):aE Tryz.prog 56 [.sl 37 (s.map b8),.sl 32 (ids.map aq)] (.tup [.sl 32 ((mr s ids).1.map aq),dI (mr s ids).2]):=by
 have B:=BE s a8;have v:=nD (bA s) ids;have Y:=N5 (s:=s) (ids:=ids);have hb: ∀l:List Dg,dA l→(∀x∈l,x∈ov s ids)→l.length≤500000000:=fun l T U=>by
  have:=tS T.nodup U;omega
 unfold mr;by_cases h:gj (bA s) ids=true
 ·rw[if_pos h];rw[h]at v;clear h;refine aI (F:=rV) Jk (by simp[rV]) ?_;simp only[rV];refine aw trivial (ga @B @v) ?_
  refine aX.overI ids (fun k (b:List Dg)=>[(7,iN k),(6,.d (.sl 32 (b.map aq)))]) (fun _ _=>[]) (fun r b=>fu r b) (fu ids []) (fun k b=>dA b∧ ∀x∈b,x∈ov s ids) [] a8 aA aA rfl rfl ⟨dA.nil,by simp⟩ (fun k b x hg R c K f n=> ?_) (fun b c f n=> ?_)
  ·have H:=hb b n.1 n.2;have E:=vP b x a8;rw[fu]at f;have O:x∈ov s ids:=fL.2 (.inl (bT hg));have o:=wL b x n.1;clear B v H;refine aw (ga @c (ga @K @hg)) @E ?_;exact⟨_,rfl,f,o.1,fun y P=>((o.2 y).1 P).elim (fun e=>by rw[e];exact O) (n.2 y)⟩
  ·rw[fu]at f;rw[f];clear f B v;refine aw @c trivial ?_
   refine aX.overI (List.range s.length) (fun k (b:List Dg×List aa)=>[(8,iN k),(6,.d (.sl 32 (b.1.map aq)))]) (fun _ b=>b.2) (fun r b=>mq s r.length b.1) (mq s s.length b) (fun k b=>dA b.1∧ ∀x∈b.1,x∈ov s ids) (b,[]) (by simp;omega) aA aA rfl (by simp) n (fun k b x hg R c K f n=> ?_) (fun b c f n=> ?_)
   ·obtain⟨b,J⟩:=b;rw[dX]at R c;rw[aU,mq]at f;dsimp only at f n;clear hg
    repeat' first|refine ak (fun _=> ?_) fun _=> ?_|refine aD ?_|simp only[c,wy,qg,aC,reduceCtorEq,reduceIte,Nat.reduceAdd,Nat.reduceMul,Nat.reduceEqDiff,Nat.reduceLT,Nat.reduceLeDiff,Nat.reduceSub,ax,aB,ay,au]
    refine aX.overI b (fun k (m:List Dg×List aa)=>[(10,iN k),(9,.d (.sl 32 (m.1.map aq)))]) (fun _ m=>m.2) (fun r m=>ny s r m.1) (ny s b b) (fun k m=>dA m.1∧ ∀x∈m.1,x∈ov s ids) (b,J) (by have:=hb b n.1 n.2;omega) aA aA rfl rfl n (fun m g y G hm t L a p=> ?_) (fun g t a p=> ?_)
    ·obtain⟨g,S⟩:=g;rw[ny]at a;dsimp only at a p;have D:=vQ s y;have C:=vO _ (W.get y);have A:=Qq (s:=s) (ids:=ids) (d:=y);have I:=IA ((bM s y).getD .zero);obtain⟨N,Q⟩: ∃N,N=bB ((bM s y).getD .zero):=⟨_,rfl⟩
     rw[←Q]at C A I a;clear Q
     repeat' first|refine ak (fun _=> ?_) fun _=> ?_|refine aD ?_|refine aj.data (D) rfl ?_|refine aj.data (C) rfl ?_|simp only[t,G,ew,c9,aL,wj,wy,qg,aC,reduceCtorEq,reduceIte,Nat.reduceAdd,Nat.reduceMul,Nat.reduceEqDiff,Nat.reduceLT,Nat.reduceLeDiff,Nat.reduceSub,ax,aB,ay,au]
     all_goals
      refine aX.overI N (fun q (g:List Dg)=>[(14,iN q),(9,.d (.sl 32 (g.map aq)))]) (fun _ _=>S++[.cells ((bk ((bM s y).getD .zero)).map .d)]) (fun r g=>fu r g) (fu N g) (fun _ g=>dA g∧ ∀x∈g,x∈ov s ids) g a8 aA aA rfl rfl p (fun q g z w Z u M j i=> ?_) (fun g u j i=> ?_)
      ·have H:=hb g i.1 i.2;have E:=vP g z a8;rw[fu]at j;have O:=A z (bT w);have o:=wL g z i.1;clear D C H f a
       repeat' first|refine ak (fun _=> ?_) fun _=> ?_|refine aD ?_|refine aj.data (E) rfl ?_|simp only[u,M,w,wy,qg,aC,reduceCtorEq,reduceIte,Nat.reduceAdd,Nat.reduceMul,Nat.reduceEqDiff,Nat.reduceLT,Nat.reduceLeDiff,Nat.reduceSub,ax,aB,ay,au]
       exact⟨_,rfl,j,o.1,fun y P=>((o.2 y).1 P).elim (fun e=>by rw[e];exact O) (i.2 y)⟩
      ·rw[fu]at j;rw[j]at a;clear D C f j
       repeat' first|refine ak (fun _=> ?_) fun _=> ?_|refine aD ?_|simp only[u,L,wy,qg,aC,reduceCtorEq,reduceIte,Nat.reduceAdd,Nat.reduceMul,Nat.reduceEqDiff,Nat.reduceLT,Nat.reduceLeDiff,Nat.reduceSub,ax,aB,ay,au]
       exact⟨(_,_),rfl,rfl,a,i⟩
    ·rw[ny]at a;rw[a]at f
     repeat' first|refine ak (fun _=> ?_) fun _=> ?_|refine aD ?_|simp only[t,K,wy,qg,aC,reduceCtorEq,reduceIte,Nat.reduceAdd,Nat.reduceMul,Nat.reduceEqDiff,Nat.reduceLT,Nat.reduceLeDiff,Nat.reduceSub,ax,aB,ay,au]
     rw[ax]at f;exact⟨(_,_),rfl,rfl,f,p⟩
   ·rw[aY,mq]at f;rw[dX]at c⊢;refine aw @c trivial ?_;rw[f]
 ·rw[if_neg h];rw[show gj (bA s) ids=false by simpa using h]at v;refine aI (F:=rV) Jk (by simp[rV]) ?_;simp only[rV];exact bx trivial (ga @B @v)
set_option maxHeartbeats 2000000 in
theorem Vl(s:aP)(ids:List Dg)(z:iC s)(p:s.length≤1000)(w:ids.length≤1000000):aE Tryz.prog 47 [.sl 37 (s.map b8),.sl 32 (ids.map aq)] (.tup [.sl 32 ((ej s ids).1.map aq),dI (ej s ids).2]):=by
 have n:=BE s a8;have g:=nD (bA s) ids;unfold ej;by_cases h:gj (bA s) ids=true
 ·rw[if_pos h];rw[h]at g;clear h;refine aI (F:=rX) Jq (by simp[rX]) ?_;simp only[rX];refine aw trivial (ga @n @g) ?_
  refine aX.overI s (fun k (b:List Dg)=>[(7,iN k),(6,.d (.sl 32 (b.map aq)))]) (fun _ _=>[]) (fun r b=>mL s ids r b) (mL s ids s []) (fun k b=>b.length≤1000000*k) [] a8 aA aA rfl rfl (by simp) (fun k b x hg B f A c v=> ?_) (fun b f c v=> ?_)
  ·have cc:=Vg s [x.id] z p (by simp);obtain⟨L,u⟩: ∃L,L=(mr s [x.id]).1:=⟨_,rfl⟩
   rw[mL]at c;rw[←u]at cc c;clear u n g;refine aw (ga @f (ga @hg (ga @eV @bc))) @cc ?_;refine aX.overI ids (fun m (b:List Dg)=>[(10,iN m),(6,.d (.sl 32 (b.map aq)))]) (fun _ _=>[]) (fun r b=>nN L x.id r b) (nN L x.id ids b) (fun m b=>b.length≤1000000*k+m) b a8 aA aA rfl rfl a8 (fun m b y i hm e j a o=> ?_) (fun b e a o=> ?_)
   ·rw[nN]at a;have t:=vP b x.id a8;have C:=wK b x.id;by_cases l:bN L y=true
    ·rw[if_pos l]at a;clear c cc;refine aw (ga @e (ga @j (ga @i (ga @hg @l)))) (ga @qq @t) ?_;exact⟨_,rfl,a,by omega⟩
    ·have q:bN L y=false:=by simpa using l
     rw[if_neg l]at a;clear c cc;refine aw (ga @e (ga @j (ga @i (ga @hg @q)))) (ga @qq @t) ?_;exact⟨_,rfl,a,by omega⟩
   ·rw[nN]at a;rw[a]at c;refine aw (ga @e @A) trivial ?_;exact⟨_,rfl,c,by omega⟩
  ·rw[mL]at c;refine aw @f trivial ?_;rw[c]
 ·rw[if_neg h];rw[show gj (bA s) ids=false by simpa using h]at g;refine aI (F:=rX) Jq (by simp[rX]) ?_;simp only[rX];exact bx trivial (ga @n @g)
end Go.Proofs.Q
