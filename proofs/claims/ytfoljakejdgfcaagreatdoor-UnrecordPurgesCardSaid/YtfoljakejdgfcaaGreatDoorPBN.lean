/- Part of a proof. -/
import Derived.Test.YtfoljakejdgfcaaGreatDoorPBL
set_option linter.unusedVariables false
set_option linter.unusedSimpArgs false
namespace Go.Proofs.Q
open Go Go.Bb Go.RowKit Go.Proofs.Lg
open Go.Ab (D RD)
set_option maxRecDepth 10000 in
theorem Yf:aE Tryz.prog 254 [] (.agg (bp .u32 fk)):=by
 have b:fk.length=64:=by decide
 have a:(bp .u32 fk).take 64=bp .u32 fk:=dm (by rw[dY,b];decide);refine aI (F:=Ba) TF (by simp[Ba]) ?_;simp only[Ba]
 repeat' first|refine ak (fun _=> ?_) fun _=> ?_|refine aD ?_|simp only[↓GR,M1,aL,dY,b,a,wy,qg,aC,reduceCtorEq,reduceIte,Nat.reduceAdd,Nat.reduceMul,Nat.reduceEqDiff,Nat.reduceLT,Nat.reduceLeDiff,Nat.reduceSub,ax,aB,ay,au]
theorem Yg:aE Tryz.prog 199 [] (.agg (bp .u32 iE)):=by
 have a:(bp .u32 iE).take 8=bp .u32 iE:=dm (by decide);have b: ∀vs:List AV,vs.length=8→aV ((bp .u32 (List.replicate 8 0)).map .d) 0 8 vs=some vs:=fun vs h=>kp (k:= .u32) (by rfl) h
 have e:((((((((List.replicate 8 (0:Int)).set 0 1779033703).set 1 3144134277).set 2 1013904242).set 3 2773480762).set 4 1359893119).set 5 2600822924).set 6 528734635).set 7 1541459225=iE:=by rfl
 have c:iE.length=8:=rfl;refine aI (F:=Bc) TG (by simp[Bc]) ?_;simp only[Bc]
 repeat' first|refine ak (fun _=> ?_) fun _=> ?_|refine aD ?_|simp only[z8,lJ,b,aL,dY,iB,fh,Nat.zero_lt_succ,e,c,a,Int.reduceLE,Int.reduceLT,Int.reduceGE,Int.reduceGT,Int.reduceEq,Int.reduceNe,Int.reduceBEq,Int.reduceBNe,decide_true,decide_false,wy,qg,aC,reduceCtorEq,reduceIte,Nat.reduceAdd,Nat.reduceMul,Nat.reduceEqDiff,Nat.reduceLT,Nat.reduceLeDiff,Nat.reduceSub,ax,aB,ay,au]
abbrev vU(x:Int):AV:= .d (.sc (.int .u32 x))
theorem LO{v:List Int}(h:v.length=8):v=[at_ v 0,at_ v 1,at_ v 2,at_ v 3,at_ v 4,at_ v 5,at_ v 6,at_ v 7]:=by
 obtain⟨a,b,c,d,e,f,g,i,rfl⟩:=Ib h;rfl
set_option maxRecDepth 20000 in
set_option maxHeartbeats 4000000 in
theorem Ye(h:List Int)(s:aZ)(B:h.length=8)(X:s.size=64):aE Tryz.prog 201 [.agg (bp .u32 h),dS s] (.agg (bp .u32 (gQ h s))):=by
 have J:=Yh s X;have u:(sched s).length=64:=by rw[sched,F6,F5];simp
 have t:fk.length=64:=by decide
 have I:(bp .u32 (sched s)).take 64=bp .u32 (sched s):=dm (by rw[dY,u];decide);have H:(bp .u32 fk).take 64=bp .u32 fk:=dm (by rw[dY,t];decide);have K:=fD (w:=h) (i:=0) a8;have z:=fD (w:=h) (i:=1) a8;have A:=fD (w:=h) (i:=2) a8;have L:=fD (w:=h) (i:=3) a8
 have M:=fD (w:=h) (i:=4) a8;have N:=fD (w:=h) (i:=5) a8;have O:=fD (w:=h) (i:=6) a8;have P:=fD (w:=h) (i:=7) a8;refine aI (F:=B9) TE (by simp[B9]) ?_;simp only[B9]
 repeat' first|refine ak (fun _=> ?_) fun _=> ?_|refine aD ?_|refine aj.data (J) rfl ?_|refine aj.data (Yf) rfl ?_|simp only[z64,z8,kp (fh ..),aL,dY,u,t,B,I,H,K,z,A,L,M,N,O,P,mH,Int.reduceToNat,Int.reduceLE,Int.reduceLT,Int.reduceGE,Int.reduceGT,Int.reduceEq,Int.reduceNe,Int.reduceBEq,Int.reduceBNe,decide_true,decide_false,wy,qg,aC,reduceCtorEq,reduceIte,Nat.reduceAdd,Nat.reduceMul,Nat.reduceEqDiff,Nat.reduceLT,Nat.reduceLeDiff,Nat.reduceSub,ax,aB,ay,au]
 clear J I H K z A L M N O P;obtain⟨R,n⟩: ∃R,R=rounds (fk.zip (sched s)) h:=⟨_,rfl⟩
 have C:R.length=8:=by rw[n];exact EW _ _ B
 have T:gQ h s=mh R (List.range 8) h:=by rw[n];rfl
 rw[T];clear T
 refine aX.overI (fk.zip (sched s)) (fun k (v:List Int)=>[(39,iN k),(7,vU (at_ v 0)),(8,vU (at_ v 1)),(9,vU (at_ v 2)),(10,vU (at_ v 3)),(11,vU (at_ v 4)),(12,vU (at_ v 5)),(13,vU (at_ v 6)),(14,vU (at_ v 7))]) (fun k v=>[.cells ((bp .u32 h).map .d),.cells ((bp .u32 (List.replicate 8 0)).map .d),.cells ((bp .u32 (sched s)).map .d),.cells ((bp .u32 fk).map .d)]) (fun r v=>rounds r v) R (fun k v=>v.length=8) h (by rw[uJ,u,t];decide) aA aA rfl n B (fun k v x hg D p G m o=> ?_) (fun v p m o=> ?_)
 ·obtain⟨Z,ww⟩:=x;obtain⟨Q,S⟩:=qK hg;rw[uJ,u,t]at D;have q:((k:Int)<64)=True:=by simp;omega
  rw[rounds]at m;dsimp only at Q S;clear n C p u t hg;rw[LO o]at m;obtain⟨a,ha⟩: ∃a,a=at_ v 0:=⟨_,rfl⟩
  obtain⟨b,hb⟩: ∃a,a=at_ v 1:=⟨_,rfl⟩
  obtain⟨c,hc⟩: ∃a,a=at_ v 2:=⟨_,rfl⟩
  obtain⟨d,p⟩: ∃a,a=at_ v 3:=⟨_,rfl⟩
  obtain⟨e,U⟩: ∃a,a=at_ v 4:=⟨_,rfl⟩
  obtain⟨f,V⟩: ∃a,a=at_ v 5:=⟨_,rfl⟩
  obtain⟨g,hg⟩: ∃a,a=at_ v 6:=⟨_,rfl⟩
  obtain⟨i,hi⟩: ∃a,a=at_ v 7:=⟨_,rfl⟩
  rw[←ha,←hb,←hc,←p,←U,←V,←hg,←hi]at m⊢;clear ha hb hc p U V hg hi
  repeat' first|refine ak (fun _=> ?_) fun _=> ?_|refine aD ?_|refine aj.data (nK _ 6 (by decide) (by decide)) rfl ?_|refine aj.data (nK _ 11 (by decide) (by decide)) rfl ?_|refine aj.data (nK _ 25 (by decide) (by decide)) rfl ?_|refine aj.data (nK _ 2 (by decide) (by decide)) rfl ?_|refine aj.data (nK _ 13 (by decide) (by decide)) rfl ?_|refine aj.data (nK _ 22 (by decide) (by decide)) rfl ?_|simp only[q,G,Q,S,mH,Int.reduceToNat,Int.reduceLE,Int.reduceLT,Int.reduceGE,Int.reduceGT,Int.reduceEq,Int.reduceNe,Int.reduceBEq,Int.reduceBNe,decide_true,decide_false,wy,qg,aC,reduceCtorEq,reduceIte,Nat.reduceAdd,Nat.reduceMul,Nat.reduceEqDiff,Nat.reduceLT,Nat.reduceLeDiff,Nat.reduceSub,ax,aB,ay,au]
  exact⟨EV Z ww [a,b,c,d,e,f,g,i],⟨rfl,rfl,rfl,rfl,rfl,rfl,rfl,rfl⟩,m,rfl⟩
 ·have Y:(fk.zip (sched s)).length=64:=by rw[uJ,u,t];decide
  have E:R=v:=m;subst E;have j:((((((((List.replicate 8 (0:Int)).set 0 (at_ R 0)).set 1 (at_ R 1)).set 2 (at_ R 2)).set 3 (at_ R 3)).set 4 (at_ R 4)).set 5 (at_ R 5)).set 6 (at_ R 6)).set 7 (at_ R 7)=R:=by
   conv=>rhs;rw[LO o]
   rfl
  repeat' first|refine ak (fun _=> ?_) fun _=> ?_|refine aD ?_|simp only[Y,z8,lJ,j,aL,dY,iB,fh,Nat.zero_lt_succ,Int.reduceLE,Int.reduceLT,Int.reduceGE,Int.reduceGT,Int.reduceEq,Int.reduceNe,Int.reduceBEq,Int.reduceBNe,decide_true,decide_false,wy,qg,aC,reduceCtorEq,reduceIte,Nat.reduceAdd,Nat.reduceMul,Nat.reduceEqDiff,Nat.reduceLT,Nat.reduceLeDiff,Nat.reduceSub,ax,aB,ay,au]
  clear j
  refine aX.overI (List.range 8) (fun k (v:List Int)=>[(111,iN k)]) (fun k v=>[.cells ((bp .u32 v).map .d),.cells ((bp .u32 (List.replicate 8 0)).map .d),.cells ((bp .u32 (sched s)).map .d),.cells ((bp .u32 fk).map .d)]) (fun r v=>mh R r v) (mh R (List.range 8) h) (fun k v=>v.length=8) h (by decide) aA aA rfl rfl B (fun k v x hg D p G m o=> ?_) (fun v p m o=> ?_)
  ·simp only[dX]at D;obtain rfl:k=x:=by rw[nV a8]at hg;simpa using hg
   have q:((k:Int)<8)=True:=by simp;omega
   have z:=fD (w:=v) (i:=k) a8;have A:=fD (w:=R) (i:=k) a8;have y:=fun x=>lJ (k:= .u32) (l:=v) (i:=k) a8 x;clear p
   repeat' first|refine ak (fun _=> ?_) fun _=> ?_|refine aD ?_|simp only[q,G,z,A,mH,y,Int.reduceLE,Int.reduceLT,Int.reduceGE,Int.reduceGT,Int.reduceEq,Int.reduceNe,Int.reduceBEq,Int.reduceBNe,decide_true,decide_false,wy,qg,aC,reduceCtorEq,reduceIte,Nat.reduceAdd,Nat.reduceMul,Nat.reduceEqDiff,Nat.reduceLT,Nat.reduceLeDiff,Nat.reduceSub,ax,aB,ay,au]
   exact⟨v.set k (aW (at_ v k) (at_ R k)),rfl,m,by simp[o]⟩
  ·have E:mh R (List.range 8) h=v:=m;have W:(bp .u32 v).take 8=bp .u32 v:=dm (by rw[dY,o];decide)
   repeat' first|refine ak (fun _=> ?_) fun _=> ?_|refine aD ?_|simp only[Int.reduceLE,Int.reduceLT,Int.reduceGE,Int.reduceGT,Int.reduceEq,Int.reduceNe,Int.reduceBEq,Int.reduceBNe,decide_true,decide_false,dX,W,kp (fh ..),aL,dY,o,wy,qg,aC,reduceCtorEq,reduceIte,Nat.reduceAdd,Nat.reduceMul,Nat.reduceEqDiff,Nat.reduceLT,Nat.reduceLeDiff,Nat.reduceSub,ax,aB,ay,au]
   rw[E]
theorem bU.eq_iff(a b:bU):a=b↔a.id=b.id∧a.pat=b.pat:=by
 cases a;cases b;simp only[bU.mk.injEq]
theorem Kb(a b:aP)(i: ∀x∈a,x.pat.changes.length≤9223372036854775807):aE Tryz.prog 16 [.sl 37 (a.map b8),.sl 37 (b.map b8)] (dB (decide (a=b))):=by
 rw[←BW];refine aE.big (enters_of Jp) 0 rfl fun m=> ?_;rw[aL]at m;refine aI (F:=AQ) Jp (by simp[AQ]) ?_;simp only[AQ]
 repeat' first|refine ak (fun _=> ?_) fun _=> ?_|refine bb trivial trivial ?_|exact ba trivial trivial|fail
 ·all_goals(simp_all[same,bS];try exact bQ)
 ·rename_i h0;have c:a.length=b.length:=by simp at h0;omega
  refine aX.over (a.zip b) (fun k (_:Unit)=>[(5,iN k)]) (fun _ _=>[]) (fun l _=>fU l) (same a b) () (by simp[c];omega) aA aA rfl (by simp[same,c]) (fun k _ x hg d j h g=> ?_) (fun _ j g=> ?_)
  ·obtain⟨e,f⟩:=qK hg;have d:(k:Int)<(a.length:Int):=by have:=(aR.1 e).1;omega
   have cs:=K6 x.1.pat x.2.pat (i _ (bT e));have n:=bU.eq_iff x.1 x.2;rw[fU]at g
   repeat' first|refine ak (fun _=> ?_) fun _=> ?_|refine bb (ga @e (ga @f (ga @d @h))) @cs ?_|exact ba (ga @e (ga @f (ga @d @h))) @cs|fail
   all_goals(clear cs i;simp_all)
  ·have d:((a.zip b).length:Int)=a.length:=by simp[c]
   refine aw @d trivial ?_
   all_goals(simp_all[fU,bS];try exact bQ)
set_option maxHeartbeats 2000000 in
theorem Vj(s:aP)(a:Nat)(hm:a≤1000)(w: ∀x∈s,x.pat.changes.length≤9223372036854775807):aE Tryz.prog 71 [.sl 37 (s.map b8),dI a] (dB (tL s a)):=by
 refine aE.big (enters_of Jo) 0 rfl fun v=> ?_;rw[aL]at v;refine aI (F:=AN) Jo (by simp[AN]) ?_;simp only[AN];refine aw trivial trivial ?_
 refine aX.overI s (fun k (n:Int)=>[(6,iN k),(5,.d (.sc (.int .i64 n)))]) (fun _ _=>[]) (fun r n=>qa a r (s.length-r.length) n) (qa a s 0 0) (fun _ _=>True) 0 v aA aA rfl (by simp) trivial (fun k n x hg B g z b _=> ?_) (fun n g b _=> ?_)
 ·have u:s.length-(x::s.drop (k+1)).length=k:=by simp only[aU,ax];omega
  have o:s.length-(s.drop (k+1)).length=k+1:=by simp only[ax];omega
  have m:=V2 x.pat (w x (bT hg));have t:=w x (bT hg);rw[u,qa]at b;by_cases l:k≤a
  ·have i:decide ((k:Int)≤(a:Int))=true:=by simp;omega
   rw[if_pos l]at b
   repeat' first|refine ak (fun _=> ?_) fun _=> ?_|refine bb (ga @g (ga @hg @i)) @m ?_|exact ba (ga @g (ga @hg @i)) @m|fail
   ·rename_i h;rw[if_pos h]at b;simp[tL,b]
   ·rename_i h;rw[if_neg (by simp[h])]at b;clear m h u o i;refine aX.over x.pat.changes (fun j (n:Int)=>[(7,iN j),(5,.d (.sc (.int .i64 n)))]) (fun _ _=>[]) (fun r n=>tK r n) (tK x.pat.changes n) n t aA aA rfl rfl (fun j n c p A f q e=> ?_) (fun n f e=> ?_)
    ·rw[tK]at e;clear b;refine aw (ga @f (ga @q (ga @p @hg))) trivial ?_;exact e
    ·rw[tK]at e;rw[e]at b;refine aw (ga @f (ga @z @hg)) trivial ?_;have o:s.length-(s.length-(k+1))=k+1:=by omega
     rw[o];exact b
  ·have i:decide ((k:Int)≤(a:Int))=false:=by simp;omega
   have y:decide ((s.length:Int)>(a:Int))=true:=by simp;omega
   rw[if_neg l]at b;refine aw (ga @g (ga @hg (ga @i @y))) trivial ?_
   all_goals(simp only[tL,b];simp;omega)
 ·rw[qa]at b
  repeat' first|refine ak (fun _=> ?_) fun _=> ?_|refine bb @g trivial ?_|exact ba @g trivial|fail
  all_goals(simp only[tL,b];simp_all;try omega)
theorem Vi(s:aP)(b: ∀x∈s,x.pat.changes.length≤9223372036854775807):aE Tryz.prog 35 [.sl 37 (s.map b8)] (dB (my s)):=by
 have a:=Vj s 8 (by decide) b;refine aI (F:=AL) To (by simp[AL]) ?_;simp only[AL]
 repeat' first|refine ak (fun _=> ?_) fun _=> ?_|refine bb trivial @a ?_|exact ba trivial @a|fail
 all_goals(rename_i h;rw[my,h])
theorem Vh(s:aP)(f: ∀x∈s,x.pat.changes.length≤9223372036854775807)(h:my s=false→iC s∧ ∀x∈s,pn x.pat.changes):aE Tryz.prog 10 [.sl 37 (s.map b8)] (dB (oH bE s)):=by
 have a:=Vi s f;unfold oH;by_cases hg:my s=true
 ·rw[hg]at a⊢;refine aI (F:=rW) Jl (by simp[rW]) ?_;simp only[rW];exact bx trivial @a
  all_goals rfl
 ·have b:my s=false:=by simpa using hg
  obtain⟨d,e⟩:=h b;have c:=Vf s d e;rw[b]at a⊢;refine aI (F:=rW) Jl (by simp[rW]) ?_;simp only[rW]
  repeat' first|refine ak (fun _=> ?_) fun _=> ?_|refine bb trivial (ga @a @c) ?_|exact ba trivial (ga @a @c)|fail
  all_goals(simp_all)
theorem BH(l:List Dg)(d:Dg):aE Tryz.prog 41 [.sl 32 (l.map aq),.agg (aq d)] (dB (bN l d)):=by
 refine aE.big (enters_of Ju) 0 rfl fun b=> ?_;rw[aL]at b;refine aI (F:=B3) Ju (by simp[B3]) ?_;simp only[B3];refine aw trivial trivial ?_;refine aX.over l (fun k (_:Unit)=>[(5,iN k)]) (fun _ _=>[]) (fun r _=>bN r d) (bN l d) () b aA aA rfl rfl (fun k _ x hg f a c e=> ?_) (fun _ a e=> ?_)
 ·repeat' first|refine ak (fun _=> ?_) fun _=> ?_|refine bb (ga @a (ga @c @hg)) trivial ?_|exact ba (ga @a (ga @c @hg)) trivial|fail
  all_goals(simp_all[bN,bS];try exact bQ)
 ·refine aw @a trivial ?_
  all_goals(simp_all[bN,bS];try exact bQ)
theorem Z6(ids:List Dg)(x:bU)(s:aP):kF ids (x::s)=if bN ids x.id=true then kF ids s else x::kF ids s:=by
 unfold kF;rw[List.filter_cons];cases h:bN ids x.id<;>simp
set_option maxHeartbeats 1000000 in
theorem Kf(s:aP)(ids:List Dg)(j:s.length≤1000000):aE Tryz.prog 43 [.sl 37 (s.map b8),.sl 32 (ids.map aq)] (.sl 37 ((kF ids s).map b8)):=by
 refine aI (F:=B4) Tz (by simp[B4]) ?_;simp only[B4];refine aw trivial trivial ?_
 refine aX.overI s (fun k (b:aP)=>[(6,iN k),(5,.tsl 0 37 (b.map b8))]) (fun k b=>[.row 44 37 b.length]) (fun r b=>b++kF ids r) (kF ids s) (fun k b=>b.length≤k) [] a8 aA aA rfl (by simp) (by simp) (fun k b x hg i c e a g=> ?_) (fun b c a g=> ?_)
 ·have d:br (b.length+1) 120=true:=by simp only[br,decide_eq_true_eq];omega
  rw[Z6]at a;by_cases h:bN ids x.id=true
  ·rw[if_pos h]at a;refine aw (ga @c (ga @e (ga @hg (ga @d (ga @h (ga @BK @iw)))))) @BH ?_;exact⟨b,rfl,rfl,a,by omega⟩
  ·have f:bN ids x.id=false:=by simpa using h
   rw[if_neg h]at a;refine aw (ga @c (ga @e (ga @hg (ga @d (ga @f (ga @BK @iw)))))) @BH ?_;exact⟨b++[x],by simp,by simp,by rw[a];simp,by simp;omega⟩
 ·simp[kF]at a;refine aw @c trivial ?_
  all_goals(simp[kF,a])
theorem Vp(s:aP)(d:Dg)(j:iC s):aE Tryz.prog 13 [.sl 37 (s.map b8),.agg (aq d)] (.tup [.sl 37 ((lO s d).1.map b8),dI (lO s d).2]):=by
 have c:=j.len;have b:=vQ s d;have g:=Kf s [d] c;unfold lO;cases hg:bM s d with
 |none=>
  rw[hg]at b;rw[if_pos rfl];refine aI (F:=rZ) Jt (by simp[rZ]) ?_;simp only[rZ];exact bx (ga @ew @c9) @b
  all_goals rfl
 |some q=>
  rw[hg]at b;rw[if_neg (by simp)];obtain⟨B,f⟩: ∃B,B=qf d s:=⟨_,rfl⟩
  rw[←f];refine aI (F:=rZ) Jt (by simp[rZ]) ?_;simp only[rZ];refine aw (ga @ew @c9) @b ?_;refine aX.over s (fun k (_:Unit)=>[(8,iN k)]) (fun _ _=>_) (fun r _=>qf d r) B () a8 aA aA rfl f (fun k _ x hg m e l a=> ?_) (fun _ e a=> ?_)
  ·have i:=vO x.pat (j.pat x (bT hg));rw[qf]at a;clear f b g
   repeat' first|refine ak (fun _=> ?_) fun _=> ?_|refine bb (ga @e (ga @l @hg)) (ga @i @BH) ?_|exact ba (ga @e (ga @l @hg)) (ga @i @BH)|fail
   ·rename_i h;rw[a,if_pos h];rfl
   ·rename_i h;rw[if_neg (by simp[h])]at a;exact⟨(),a⟩
  ·rw[qf]at a;subst a;exact bx (ga @e (ga @eV @bc)) @g
   all_goals rfl
end Go.Proofs.Q
