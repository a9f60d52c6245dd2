/- Part of a proof. -/
import Derived.Test.YtfoljakejdgfcaaGreatDoorPAT
import Derived.Test.YtfoljakejdgfcaaGreatDoorPAV
import Derived.Test.YtfoljakejdgfcaaGreatDoorV7
import Derived.Deep.RegionHeld3
import Derived.Deep.RegionWith
import Derived.Deep.DrawnRows
set_option linter.unusedVariables false
set_option linter.unusedSimpArgs false
namespace Go.Proofs.Q
open Go Go.Bb Go.RowKit Go.Proofs.Lg
open Go.Ab (D RD)
theorem oD{c:af}(h:gm c=0):(1≤c.kind∧c.kind≤7)∧nc (ku c)=true∧(c.kind=5→mB c.lines=0):=by
 unfold gm at h;split at h
 ·omega
 rename_i d;split at h
 ·omega
 rename_i a;refine⟨by omega,by simpa using a,fun b=> ?_⟩;rw[if_neg a8,if_neg a8,if_neg a8]at h;split at h
 ·omega
 first|exact h|(rw[if_pos b]at h;exact h)
theorem Df{c:af}(h:gm c=0):c.lines.length≤2000:=by
 obtain⟨_,a,d⟩:=oD h;by_cases b:c.kind=5
 ·have:=d b;unfold mB at this;split at this
  ·omega
  split at this
  ·omega
  ·omega
 ·simp only[nc,eI,decide_eq_true_eq]at a;have:((ku c).lines.length:Int)=0:=a.2.2.2.2.2.2.2.2.1;have e:(ku c).lines=c.lines:=by simp[ku,b]
  rw[e]at this;omega
theorem vg{c:af}(h:gm c=0):c.over.length≤400:=by
 obtain⟨d,a,_⟩:=oD h;by_cases e:c.kind=5∨c.kind=1
 ·simp only[nc,eI,decide_eq_true_eq]at a;have:((ku c).over.length:Int)=0:=a.2.2.2.2.2.2.2.2.2;have b:(ku c).over=c.over:=by simp only[ku];rw[if_neg a8]
  rw[b]at this;omega
 ·unfold gm at h;rw[if_neg a8,if_neg (by simp[a]),if_neg a8]at h;split at h
  ·omega
  rw[if_neg a8]at h;split at h
  ·omega
  rw[if_neg a8]at h;split at h
  ·omega
  split at h
  ·omega
  omega
theorem Ii{c:af}{n:Nat}(h:c.lines.length≤2000):(fF c n).length≤4001:=by
 unfold fF
 repeat' split
 all_goals(try simp)
 omega
structure FL(c:af):Prop where
 s:FK c
 over:c.over.length≤9223372036854775807
set_option maxHeartbeats 1000000 in
theorem V6(l:List af)(v: ∀c∈l,FL c)(y:l.length≤400):aE Tryz.prog 109 [.sl 139 (l.map aQ)] (.tup [.sl 172 ((eU l []).1.map aO),dI (eU l []).2]):=by
 refine aI (F:=Ao) T6 (by simp[Ao]) ?_;simp only[Ao];refine aw trivial trivial ?_
 refine aX.overI l (fun k (b:List aJ)=>[(5,iN k),(4,.tsl 0 172 (b.map aO))]) (fun k b=>[.row 71 172 b.length]) (fun r b=>eU r b) (eU l []) (fun k b=>b.length≤4001*k) [] a8 aA aA rfl rfl (by simp) (fun k b x hg w f o a t=> ?_) (fun b f a t=> ?_)
 ·have h:=v x (bT hg);have e:=Va x h.s;have i:=Vd x b h.over;rw[eU]at a;by_cases d:gm x=0
  ·rw[if_neg (by simpa using d)]at a;by_cases g:jJ x b=0
   ·rw[if_neg (by simpa using g)]at a;have m:=Df d;have u:=Ii (c:=x) (n:=b.length) m;have p:=V3 x b.length a8 a8 (oD d).1.1 (oD d).1.2;have q:br (b.length+(fF x b.length).length) 296=true:=room_le a8 a8;rw[d]at e;rw[g]at i;clear h d g
    refine aw (ga @f (ga @o (ga @hg @q))) (ga @e (ga @i @p)) ?_;exact⟨b++fF x b.length,by simp,by simp,a,by simp;omega⟩
   ·rw[if_pos (by simpa using g)]at a;have j:(jJ x b !=0)=true:=by simpa using g
    rw[d]at e;clear h d;refine aw (ga @f (ga @o (ga @hg @j))) (ga @e @i) ?_;rw[a];rfl
  ·rw[if_pos (by simpa using d)]at a;have j:(gm x !=0)=true:=by simpa using d
   clear h;refine aw (ga @f (ga @o (ga @hg @j))) @e ?_;rw[a];rfl
 ·rw[eU]at a;refine aw @f trivial ?_;rw[a]
structure xa(p:b9):Prop where
 author:p.author.size≤9223372036854775807
 chg: ∀c∈p.changes,FL c
set_option maxHeartbeats 1000000 in
theorem K8(p:b9)(f:xa p):aE Tryz.prog 67 [.agg (bk p)] (.tup [.sl 172 ((dT p).1.map aO),dI (dT p).2]):=by
 have a:=K3 p.author f.author;have b:=V7 p.deps;by_cases h:p.changes.length≤400
 ·have g:=V6 p.changes f.chg h;have d:decide ((p.changes.length:Int)>400)=false:=by simp;omega
  have e:dT p=if isName p.author=false then([],5)else if 1000<(p.message.size:Int)then([],4)else if p.time<0∨1099511627776<p.time then([],2)else if fN p.deps≠0 then([],fN p.deps)else if(p.changes.length:Int)=0 then([],1)else eU p.changes []:=by
   unfold dT;rw[if_neg (c:=400<(p.changes.length:Int)) a8]
  rw[e];clear e f h;refine aI (F:=rT) Jg (by simp[rT]) ?_;simp only[rT]
  repeat' first|refine ak (fun _=> ?_) fun _=> ?_|refine bb @d (ga @a (ga @b @g)) ?_|exact ba @d (ga @a (ga @b @g))|fail
  all_goals(clear a b g;first|(simp_all;done)|(simp_all;omega)|((repeat' split)<;>simp_all<;>omega))
 ·have d:decide ((p.changes.length:Int)>400)=true:=by simp;omega
  have e:dT p=if isName p.author=false then([],5)else if 1000<(p.message.size:Int)then([],4)else if p.time<0∨1099511627776<p.time then([],2)else if fN p.deps≠0 then([],fN p.deps)else if(p.changes.length:Int)=0 then([],1)else([],4):=by
   unfold dT;rw[if_pos (c:=400<(p.changes.length:Int)) a8]
  rw[e];clear e f h;refine aI (F:=rT) Jg (by simp[rT]) ?_;simp only[rT]
  repeat' first|refine ak (fun _=> ?_) fun _=> ?_|refine bb @d (ga @a @b) ?_|exact ba @d (ga @a @b)|fail
  all_goals(clear a b;first|(simp_all;done)|(simp_all;omega)|((repeat' split)<;>simp_all<;>omega))
structure Cq(p:b9):Prop where
 deps:p.deps.length≤1000000
 chg:p.changes.length≤1000000
 kind: ∀c∈p.changes,1≤c.kind∧c.kind≤7∧c.over.length≤1000000000∧c.lines.length≤1000000000
 good:eW 6 (kn p)
 nodes:bG 6 (kn p)≤20000
 size:(fE 6 (kn p)).size≤1000000000000
set_option maxHeartbeats 1000000 in
theorem V9(p:b9)(d:Cq p):aE Tryz.prog 120 [.agg (bk p)] (.tup [dS (nf p).1,dI (nf p).2]):=by
 have s:=d.deps;have t:=d.chg;have n:=UN d.good (by decide) d.nodes d.size;have f:=d.kind;clear d;refine aI (F:=As) T9 (by simp[As]) ?_;simp only[As];refine aw trivial trivial ?_
 refine aX.overI p.deps (fun k (b:List Sx)=>[(6,iN k),(4,.tsl 0 3 (b.map ae))]) (fun k b=>[.row 199 3 b.length,.row 199 3 0]) (fun r b=>b++r.map fO) (p.deps.map fO) (fun k b=>b.length=k) [] a8 aA aA rfl rfl rfl (fun k b x hg q c h a e=> ?_) (fun b c a e=> ?_)
 ·have g:br (b.length+1) 48=true:=by simp only[br,decide_eq_true_eq];omega
  refine aw (ga @c (ga @h (ga @hg @g))) @K9 ?_;exact⟨b++[fO x],by simp,by simp,by simpa using a,by simp[e]⟩
 ·simp at a;subst a;refine aw @c trivial ?_;refine aX.overI p.changes (fun k (b:List Sx)=>[(7,iN k),(5,.tsl 1 3 (b.map ae))]) (fun k b=>[.row 199 3 p.deps.length,.row 199 3 b.length]) (fun r b=>b++r.map bW) (p.changes.map bW) (fun k b=>b.length=k) [] a8 aA aA rfl rfl rfl (fun k b x hg q c h a e=> ?_) (fun b c a e=> ?_)
  ·have g:br (b.length+1) 48=true:=by simp only[br,decide_eq_true_eq];omega
   obtain⟨i,j,l,m⟩:=f x (bT hg);have o:=V5 x i j l m;clear i j l m;refine aw (ga @c (ga @h (ga @hg @g))) @o ?_;exact⟨b++[bW x],by simp,by simp,by simpa using a,by simp[e]⟩
  ·simp at a;subst a
   repeat' first|refine ak (fun _=> ?_) fun _=> ?_|refine aD ?_|refine aj.data (u0 _) rfl ?_|refine aj.data (oU _) rfl ?_|refine aj.data (so _) rfl ?_|refine aj.data (Q7 _ _ _ _ _ _) rfl ?_|refine aj.data (n) rfl ?_|simp only[c,bne_self_eq_false,wy,qg,aC,reduceCtorEq,reduceIte,Nat.reduceAdd,Nat.reduceMul,Nat.reduceEqDiff,Nat.reduceLT,Nat.reduceLeDiff,Nat.reduceSub,ax,aB,ay,au]
   all_goals(unfold nf kP;first|(rw[if_pos a8];done)|(rw[if_neg a8];done))
structure cV(p:b9):Prop where
 z:xa p
 enc:(dT p).2=0→Cq p
theorem K4(p:b9)(b:cV p):aE Tryz.prog 86 [.agg (bk p)] (.tup [dS (dK p).1,dI (dK p).2]):=by
 have a:=K8 p b.z;unfold dK;by_cases h:(dT p).2=0
 ·have c:=V9 p (b.enc h);rw[h]at a;rw[if_neg (by simpa using h)];clear h;refine aI (F:=rP) Jb (by simp[rP]) ?_;simp only[rP];exact bx trivial (ga @a @c)
 ·have d:((dT p).2 !=0)=true:=by simpa using h
  rw[if_pos h];refine aI (F:=rP) Jb (by simp[rP]) ?_;simp only[rP];exact bx @d @a
theorem V1(p:b9)(b:cV p):aE Tryz.prog 64 [.agg (bk p)] (dI (iD p)):=by
 have a:=K4 p b;refine aI (F:=Aa) SR (by simp[Aa]) ?_;simp only[Aa];refine aw trivial @a ?_
 all_goals rfl
theorem qp(x:ar)(d:Dg):aE Tryz.prog 68 [.agg (ab x),.agg (aq d)] (.agg (ab (whole x d))):=by
 refine aI (F:=AI) Tm (by simp[AI]) ?_;simp only[AI]
 repeat' first|refine ak (fun _=> ?_) fun _=> ?_|refine bb trivial @jH ?_|exact ba trivial @jH|fail
 all_goals(unfold whole;first|(rw[if_pos (by simp_all)];done)|(rw[if_neg (by simp_all)];done))
theorem LS(x:Dg): ∀(l:List Dg) (k:Nat),k≤jl x l k∧jl x l k≤k+l.length
 |[],k=>by simp[jl]
 |y::l,k=>by
  unfold jl;split
  ·have:=LS x l (k+1);simp only[aU];omega
  ·simp
theorem FA{l:List Dg}{x:Dg}{k:Nat}(h:jl x l 0=k):jK l x=if l[k]?=some x then l else l.take k++x::l.drop k:=by unfold jK;rw[h]
theorem wK(l:List Dg)(x:Dg):(jK l x).length≤l.length+1:=by
 unfold jK;split
 ·omega
 ·have:=LS x l 0;simp;omega
theorem u9(x:Dg)(l:List AV)(h:l.length=32):aV l 0 32 ((aq x).map .d)=some ((aq x).map .d):=gp h (by rw[aL,bc])
theorem vP(l:List Dg)(z:Dg)(q:l.length≤1000000000):aE Tryz.prog 80 [.sl 32 (l.map aq),.agg (aq z)] (.sl 32 ((jK l z).map aq)):=by
 refine aI (F:=Al) T3 (by simp[Al]) ?_;simp only[Al];refine aw trivial trivial ?_;refine aX.over l (fun k (_:Unit)=>[(5,iN k)]) (fun _ _=>[]) (fun r _=>jl z r (l.length-r.length)) (jl z l 0) () a8 aA aA rfl (by simp) (fun k _ x hg p e j a=> ?_) (fun _ e a=> ?_)
 ·have i:l.length-(x::l.drop (k+1)).length=k:=by simp only[aU,ax];omega
  have o:l.length-(l.drop (k+1)).length=k+1:=by simp only[ax];omega
  rw[i,jl]at a;have f:(k:Int)≤(l.length:Int):=by omega
  have g:br (l.take k).length 32=true:=by simp only[br,decide_eq_true_eq,du];omega
  have m:br ((l.take k).length+1) 32=true:=by simp only[br,decide_eq_true_eq,du];omega
  have n:br ((l.take k).length+1+(l.length-k)) 32=true:=by simp only[br,decide_eq_true_eq,du];omega
  repeat' first|refine ak (fun _=> ?_) fun _=> ?_|refine aD ?_|refine aj.data (lI _ _) rfl ?_|simp only[e,j,hg,f,g,m,n,u9,aL,bc,iL,iz,py,wy,qg,aC,reduceCtorEq,reduceIte,Nat.reduceAdd,Nat.reduceMul,Nat.reduceEqDiff,Nat.reduceLT,Nat.reduceLeDiff,Nat.reduceSub,ax,aB,ay,au]
  ·rename_i h;rw[if_pos h]at a;exact⟨(),by rw[a];congr 1;omega⟩
  ·rename_i b c;rw[if_neg b]at a;rw[FA a,hg,if_pos (by rw[c])]
  ·rename_i b c;rw[if_neg b]at a;rw[FA a,hg,if_neg (by simpa using c)];simp[qu]
 ·have f:br l.length 32=true:=by simp only[br,decide_eq_true_eq];omega
  have g:br (l.length+1) 32=true:=by simp only[br,decide_eq_true_eq];omega
  have d:jl z l 0=l.length:=by rw[a];simp[jl]
  repeat' first|refine ak (fun _=> ?_) fun _=> ?_|refine aD ?_|simp only[e,f,g,u9,aL,bc,iL,iz,py,sO,ia,wy,qg,aC,reduceCtorEq,reduceIte,Nat.reduceAdd,Nat.reduceMul,Nat.reduceEqDiff,Nat.reduceLT,Nat.reduceLeDiff,Nat.reduceSub,ax,aB,ay,au]
  rw[FA d,fZ (bh _),if_neg (by simp)];simp
theorem F3{α:Type}[DecidableEq α]: ∀(a b:List α),a.length=b.length→fU (a.zip b)=decide (a=b)
 |[],[],_=>rfl
 |x::a,y::b,h=>by
  rw[mc,fU,F3 a b (by simpa using h)];by_cases e:x=y
  ·subst e;simp
  ·simp[e]
 |[],_::_,h=>by simp at h
 |_::_,[],h=>by simp at h
theorem BW{α:Type}[DecidableEq α](a b:List α):same a b=decide (a=b):=by
 unfold same;split
 ·rename_i h;exact F3 a b h
 ·rename_i h;symm;simp;intro e;exact h (by rw[e])
theorem V4(a b:List ar):aE Tryz.prog 27 [.sl 33 (a.map ab),.sl 33 (b.map ab)] (dB (decide (a=b))):=by
 rw[←BW];refine aE.big (enters_of Jf) 0 rfl fun j=> ?_;rw[aL]at j;refine aI (F:=Ak) Jf (by simp[Ak]) ?_;simp only[Ak]
 repeat' first|refine ak (fun _=> ?_) fun _=> ?_|refine bb trivial trivial ?_|exact ba trivial trivial|fail
 ·all_goals(simp_all[same,bS];try exact bQ)
 ·rename_i h0;have c:a.length=b.length:=by simp at h0;omega
  refine aX.over (a.zip b) (fun k (_:Unit)=>[(5,iN k)]) (fun _ _=>[]) (fun l _=>fU l) (same a b) () (by simp[c];omega) aA aA rfl (by simp[same,c]) (fun k _ x hg d i g h=> ?_) (fun _ i h=> ?_)
  ·obtain⟨e,f⟩:=qK hg;have d:(k:Int)<(a.length:Int):=by have:=(aR.1 e).1;omega
   repeat' first|refine ak (fun _=> ?_) fun _=> ?_|refine bb (ga @e (ga @f (ga @d @g))) trivial ?_|exact ba (ga @e (ga @f (ga @d @g))) trivial|fail
   all_goals(simp_all[fU,bS];try exact bQ)
  ·have d:((a.zip b).length:Int)=a.length:=by simp[c]
   refine aw @d trivial ?_
   all_goals(simp_all[fU,bS];try exact bQ)
theorem af.eq_iff(a b:af):a=b↔a.kind=b.kind∧a.file=b.file∧a.type=b.type∧a.parent=b.parent∧a.name=b.name∧a.mode=b.mode∧a.data=b.data∧a.after=b.after∧a.before=b.before∧a.lines=b.lines∧a.over=b.over:=by
 cases a;cases b;simp only[af.mk.injEq]
theorem b9.eq_iff(a b:b9):a=b↔a.author=b.author∧a.message=b.message∧a.time=b.time∧a.deps=b.deps∧a.changes=b.changes:=by
 cases a;cases b;simp only[b9.mk.injEq]
set_option maxRecDepth 20000 in
set_option maxHeartbeats 2000000 in
theorem K5(a b:af):aE Tryz.prog 66 [.agg (aQ a),.agg (aQ b)] (dB (decide (a=b))):=by
 have c:=UW a.lines b.lines;have d:=V4 a.over b.over;rw[BW]at c;have f:=af.eq_iff a b;obtain⟨R,e⟩: ∃R,R=decide (a=b):=⟨_,rfl⟩
 rw[←e];refine aI (F:=Aj) T1 (by simp[Aj]) ?_;simp only[Aj]
 repeat' first|refine ak (fun _=> ?_) fun _=> ?_|refine bb @jY (ga @c @d) ?_|exact ba @jY (ga @c @d)|fail
 all_goals(clear c d;rw[e];simp_all)
set_option maxHeartbeats 2000000 in
theorem K6(a b:b9)(hb:a.changes.length≤9223372036854775807):aE Tryz.prog 32 [.agg (bk a),.agg (bk b)] (dB (decide (a=b))):=by
 have f:=JZ a.deps b.deps;rw[BW]at f;have o:=b9.eq_iff a b;obtain⟨R,d⟩: ∃R,R=decide (a=b):=⟨_,rfl⟩
 rw[←d];refine aI (F:=Ai) T0 (by simp[Ai]) ?_;simp only[Ai]
 repeat' first|refine ak (fun _=> ?_) fun _=> ?_|refine bb @jY @f ?_|exact ba @jY @f|fail
 ·clear f;rw[d];simp_all
 ·clear f;rw[d];simp_all
 ·clear f;rw[d];simp_all
 ·clear f;rw[d];symm;rw[decide_eq_false_iff_not];rename_i h;intro e;subst e;simp at h
 ·rename_i q r m s t;have c:a.changes.length=b.changes.length:=by simp at t;omega
  have g:R=fU (a.changes.zip b.changes):=by
   rw[F3 _ _ c,d];simp at m;simp only[o,q,r,m,s,true_and]
  ·refine aX.over (a.changes.zip b.changes) (fun k (_:Unit)=>[(5,iN k)]) (fun _ _=>[]) (fun l _=>fU l) R () (by simp[c];omega) aA aA rfl g (fun k _ x hg i u p d=> ?_) (fun _ u d=> ?_)
   ·obtain⟨j,n⟩:=qK hg;have i:(k:Int)<(a.changes.length:Int):=by have:=(aR.1 j).1;omega
    rw[fU]at d;clear o g f
    repeat' first|refine ak (fun _=> ?_) fun _=> ?_|refine bb (ga @j (ga @n (ga @i @p))) @K5 ?_|exact ba (ga @j (ga @n (ga @i @p))) @K5|fail
    all_goals(simp_all[fU,bS];try exact bQ)
   ·have i:((a.changes.zip b.changes).length:Int)=a.changes.length:=by simp[c]
    refine aw @i trivial ?_
    all_goals(simp_all[fU,bS];try exact bQ)
 ·clear f;rw[d];simp_all
set_option maxHeartbeats 2000000 in
theorem V2(p:b9)(hb:p.changes.length≤9223372036854775807):aE Tryz.prog 18 [.agg (bk p)] (dB (kT p)):=by
 refine aI (F:=Ag) SY (by simp[Ag]) ?_;simp only[Ag];refine aw trivial trivial ?_
 refine aX.over p.changes (fun k (b:Int×List aa)=>[(4,iN k),(3,.d (.sc (.int .i64 b.1)))]) (fun _ b=>b.2) (fun l b=>pZ l b.1) (pZ p.changes (W (p.author.size+p.message.size))) (W (p.author.size+p.message.size),[]) hb aA aA rfl rfl (fun k b x hg i c e a=> ?_) (fun b c a=> ?_)
 ·obtain⟨n,J⟩:=b;rw[pZ]at a;dsimp only at a
  repeat' first|refine ak (fun _=> ?_) fun _=> ?_|refine bb (ga @c (ga @e (ga @hg (ga @fI (ga @dN @wj))))) @K0 ?_|exact ba (ga @c (ga @e (ga @hg (ga @fI (ga @dN @wj))))) @K0|fail
  ·rename_i h;rw[kT,a,if_pos (.inl h)]
  ·rename_i h;rw[kT,a,if_pos (.inr a8)]
  ·rename_i f g;rw[if_neg (by
    rintro(h|h); · simp[f]at h
    ·omega)]at a
   exact⟨(_,_),rfl,rfl,a⟩
 ·obtain⟨n,J⟩:=b;rw[pZ]at a;dsimp only at a
  repeat' first|refine ak (fun _=> ?_) fun _=> ?_|refine bb @c trivial ?_|exact ba @c trivial|fail
  all_goals(simp only[kT,a];simp_all;try omega)
theorem Hf(p:b9):(dK p).1.size≤65536:=by
 unfold dK nf;split
 ·exact fM _
 ·split
  ·exact fM _
  ·rename_i h;exact Nat.le_of_not_lt h
theorem uT{p:b9}(h:iD p=0):(dT p).2=0:=by
 unfold iD dK at h;split at h
 ·assumption
 ·rename_i a;simpa using a
theorem GA: ∀{l:List af} {own:List aJ},(eU l own).2=0→ ∀c∈l,gm c=0
 |[],_,_,c,hc=>by cases hc
 |x::l,own,h,c,hc=>by
  rw[eU]at h;split at h
  ·rename_i a;exact absurd h a
  split at h
  ·rename_i a;exact absurd h a
  rename_i a b;rcases bY.1 hc with rfl|hc
  ·simpa using a
  ·exact GA h c hc
theorem Qg{c:af}{n:Nat}(h:c.over.length≤400): ∀x∈fF c n,x.over.length≤400:=by
 intro x a;unfold fF at a
 repeat' split at a
 all_goals first
  |(rw[pw]at a;subst a;first|exact h|exact fM _)
  |skip
 rcases fL.1 a with a|a
 ·obtain⟨i,_,rfl⟩:=List.mem_mapIdx.1 a;exact fM _
 ·obtain⟨i,_,rfl⟩:=cy.1 a;exact fM _
theorem CY: ∀{l:List af} {own:List aJ},(∀x∈own,x.over.length≤400)→ ∀x∈(eU l own).1,x.over.length≤400
 |[],_,h,x,a=>h x a
 |c::l,own,h,x,a=>by
  rw[eU]at a;split at a
  ·cases a
  rename_i d;split at a
  ·cases a
  refine CY (l:=l) (own:=own++fF c own.length) (fun y b=> ?_) x a;rcases fL.1 b with b|b
  ·exact h y b
  ·exact Qg (vg (by simpa using d)) y b
theorem CX: ∀{l:List af} {own:List aJ},(eU l own).1.length≤own.length+4001*l.length
 |[],own=>by simp[eU]
 |c::l,own=>by
  rw[eU];split
  ·simp
  rename_i a;split
  ·simp
  have:=CX (l:=l) (own:=own++fF c own.length);have b:=Ii (c:=c) (n:=own.length) (Df (by simpa using a));simp only[aN,aU]at*;omega
theorem mY{p:b9}(h:(dT p).2=0):p.deps.length≤100∧p.changes.length≤400∧(∀c∈p.changes,gm c=0)∧dT p=eU p.changes []∧isName p.author=true∧p.message.size≤1000∧0≤p.time∧p.time≤1099511627776:=by
 unfold dT at h⊢;split at h
 ·cases h
 split at h
 ·cases h
 split at h
 ·cases h
 split at h
 ·rename_i d;exact absurd h d
 split at h
 ·cases h
 split at h
 ·cases h
 rename_i a a2 a3 a4 a5 b;refine⟨?_,by omega,GA h,?_,by simpa using a,by omega,by omega,by omega⟩
 ·simp only[ne_eq,Decidable.not_not]at a4;unfold fN at a4;split at a4
  ·cases a4
  ·omega
 ·rw[if_neg a,if_neg a2,if_neg a3,if_neg a4,if_neg a5,if_neg b]
theorem Ei(p:b9)(d:cV p):aE Tryz.prog 49 [.agg (bk p)] (.tup [.agg (aq (dh bE p).1),dI (dh bE p).2]):=by
 have a:=K4 p d;have b:=UP (dK p).1 (by have:=Hf p;omega);unfold dh;by_cases h:(dK p).2=0
 ·rw[h]at a;rw[if_neg (by simpa using h)];clear h;refine aI (F:=rQ) Jc (by simp[rQ]) ?_;simp only[rQ];exact bx (ga @eV @bc) (ga @a @b)
 ·have c:((dK p).2 !=0)=true:=by simpa using h
  rw[if_pos h];refine aI (F:=rQ) Jc (by simp[rQ]) ?_;simp only[rQ];exact bx (ga @c (ga @eV @bc)) @a
theorem LV: ∀(r:List ar) (b:List Dg),(l8 r b).length≤b.length+r.length
 |[],b=>bh _
 |x::r,b=>by
  rw[l8];have a:=LV r (if isZero x.p then b else jK b x.p);have d:=wK b x.p;rw[aU];by_cases c:isZero x.p=true
  ·rw[if_pos c]at a⊢;omega
  ·rw[if_neg c]at a⊢;omega
set_option maxHeartbeats 2000000 in
theorem vO(p:b9)(E:cV p):aE Tryz.prog 42 [.agg (bk p)] (.sl 32 ((bB p).map aq)):=by
 have s:=V1 p E;unfold bB;by_cases h:iD p=0
 ·rw[if_neg (by simpa using h)];rw[h]at s;obtain⟨G,B,u,_⟩:=mY (uT h);clear h;refine aI (F:=rS) Je (by simp[rS]) ?_;simp only[rS];refine aw trivial @s ?_
  refine aX.overI p.deps (fun k (b:List Dg)=>[(4,iN k),(3,.d (.sl 32 (b.map aq)))]) (fun _ _=>[]) (fun r b=>fu r b) (fu p.deps []) (fun k b=>b.length≤k) [] a8 aA aA rfl rfl (by simp) (fun k b x hg C a o e l=> ?_) (fun b a e l=> ?_)
  ·have j:=vP b x a8;have w:=wK b x;rw[fu]at e;refine aw (ga @a (ga @o @hg)) @j ?_;exact⟨_,rfl,e,by omega⟩
  ·rw[fu]at e;rw[e];clear e;refine aw @a trivial ?_;refine aX.overI p.changes (fun k (b:List Dg×List aa)=>[(5,iN k),(3,.d (.sl 32 (b.1.map aq)))]) (fun _ b=>b.2) (fun r b=>lG r b.1) (lG p.changes b) (fun k b=>b.1.length≤100+404*k) (b,[]) a8 aA aA rfl rfl (by simp;omega) (fun k b x hg C a o e l=> ?_) (fun b a e l=> ?_)
   ·obtain⟨b,J⟩:=b;have D:=vg (u x (bT hg));have g:br (4+x.over.length) 40=true:=room_le a8 a8;dsimp only at e l;rw[lG]at e;refine aw (ga @a (ga @o (ga @hg (ga @fI (ga @dN (ga @g @wj)))))) trivial ?_;obtain⟨L,n⟩: ∃L,L=lN x:=⟨_,rfl⟩
    have f:(ab x.file::ab x.parent::ab x.after::ab x.before::List.map ab x.over)=L.map ab:=by rw[n];rfl
    have A:L.length=4+x.over.length:=by rw[n];simp[lN];omega
    rw[←n]at e;rw[f];clear n f g hg a;refine aX.overI L (fun k (b:List Dg)=>[(8,iN k),(3,.d (.sl 32 (b.map aq)))]) (fun _ _=>J++[.cells ((aQ x).map .d),.row 60 33 (4+x.over.length)]) (fun r b=>l8 r b) (l8 L b) (fun m b=>b.length≤100+404*k+m) b a8 aA aA rfl rfl a8 (fun m b y hg hm a i c t=> ?_) (fun b a c t=> ?_)
    ·rw[l8]at c;have j:=vP b y.p a8;have w:=wK b y.p;by_cases q:isZero y.p=true
     ·rw[if_pos q]at c;clear j w;refine aw (ga @a (ga @i (ga @hg @q))) @jH ?_;exact⟨_,rfl,c,by omega⟩
     ·have v:isZero y.p=false:=by simpa using q
      rw[if_neg q]at c;refine aw (ga @a (ga @i (ga @hg @v))) (ga @jH @j) ?_;exact⟨_,rfl,c,by omega⟩
    ·rw[l8]at c;rw[c]at e;refine aw (ga @a @o) trivial ?_;exact⟨(_,_),rfl,rfl,e,by dsimp only;omega⟩
   ·rw[lG]at e;refine aw @a trivial ?_;rw[e]
 ·have z:(iD p !=0)=true:=by simpa using h
  rw[if_pos h];refine aI (F:=rS) Je (by simp[rS]) ?_;simp only[rS];exact bx @z @s
end Go.Proofs.Q
namespace Go.Proofs.Lg
open Go Go.RowKit
attribute [local go_sem↓] Go.wp_at_zero Go.wp_at_succ
theorem XT(w:World)(b f off e c g:Nat)(x y:List Int)(o:Bytes x)(p:Bytes y)(n:x.length=y.length)
  (l: ∀i z,x[i]?=some z→w.cell? ⟨b,off+i,none⟩=some (Value.int .u8 z)) (m: ∀i z,y[i]?=some z→w.cell? ⟨f,e+i,none⟩=some (Value.int .u8 z)):
  (Extern.BytealgCompare.compare #[.slice (some ⟨b,off,none⟩) x.length c,.slice (some ⟨f,e,none⟩) y.length g]).run Tryz.prog w= .ok (.int .i64 (iu x y)) w:=by
 have j:=run_loadBytes (P:=Tryz.prog) w b x off .empty l;have k:=run_loadBytes (P:=Tryz.prog) w f y e .empty m;have hc: ∀a b:Value,Extern.BytealgCompare.compare #[a,b]=(Extern.Bytes.bytesOf a>>=fun x=>Extern.Bytes.bytesOf b>>=fun y=>pure (goInt (Extern.BytealgCompare.cmp x y))):=fun _ _=>rfl;rw[hc];simp only[Extern.Bytes.bytesOf,bC,j,k,bI,bX]
 have: ∀d:List Int,(⟨ByteArray.empty.data++(fV d).data⟩:ByteArray)=fV d:=fun d=>by cases h:fV d;simp
 rw[this,this,NY x y o p n];rfl
set_option maxHeartbeats 400000 in
set_option maxRecDepth 100000 in
theorem xo(w:World)(b f off a n c h:Nat)(x y:List Int)(l:Bytes x)(m:Bytes y)(g:x.length=n)(d:y.length=n)
  (j: ∀i z,x[i]?=some z→w.cell? ⟨b,off+i,none⟩=some (Value.int .u8 z)) (k: ∀i z,y[i]?=some z→w.cell? ⟨f,a+i,none⟩=some (Value.int .u8 z)):
  Calls Tryz.prog 141 #[.slice (some ⟨b,off,none⟩) n c,.slice (some ⟨f,a,none⟩) n h] w fun e w'=>e= .returned (.int .i64 (iu x y))∧w=w':=by
 have e:=XT w b f off a c h x y l m (g.trans d.symm) j k;rw[g,d]at e;have E:=Lib.hid e;clear e j k g d
 go_enter Tryz.func141,Tryz.ntmps141
 go_wp2
 rw[run_callFunc_extern Tryz.func197 (by kernel_rfl) (by kernel_rfl) (by kernel_rfl) (e:=Extern.BytealgCompare.compare) (by kernel_rfl),E.out];simp only[Result.andThen];rw[Oper.upon_value]
 go_wp2
 go_ret
 exact⟨rfl,rfl⟩
end Go.Proofs.Lg
namespace Go.Proofs.Q
open Go Go.Bb Go.RowKit Go.Proofs.Lg
open Go.Ab (D RD)
theorem enters_fn'{P:Program}{f:FuncId}{fn:Func}{c:Code}(a:P.funcs[f]?=some fn)(hb:fn.body=some c)(d:(fn.name== "runtime.NumGoroutine")=false):Enters P f:=fun args w=>by
 have b:fn.name≠ "runtime.NumGoroutine":=by simpa using d
 simp[callFunc,a,b,hb,mark]
theorem Gj{I:Nat→Nat}{w:World}{v:Value}{x:List Int}(h:RD I w v (.sl 1 (x.map fun n=>[D.sc (.int .u8 n)])))(s:0<x.length): ∃b off c,v= .slice (some ⟨b,off,none⟩) x.length c∧ ∀i z,x[i]?=some z→w.cell? ⟨b,off+i,none⟩=some (Value.int .u8 z):=by
 obtain⟨a,c,us,rfl,o,p,q,f,j⟩:=h.sl_inv;obtain⟨b,off,rfl,hc⟩:=j (by intro e;have:=congrArg List.length e;rw[aL]at this;simp only[aY]at this;omega);have g:(x.map fun n=>[D.sc (.int .u8 n)]).flatten=x.map fun n=>D.sc (.int .u8 n):=by
  clear o p q f j hc s h
  induction x with
  |nil=>rfl
  |cons a l t=>simp[t]
 rw[g]at f;refine⟨b,off,c,by rw[aL],fun i z m=> ?_⟩;have r:=f.1;rw[aL]at r;have hi:=(aR.1 m).1;have k:us[i]?=some us[i]:=bV a8;have d:=f.2.2 i _ _ k (by rw[cC,m];rfl);rw[(hc i _ k).2];congr 1;generalize us[i]=u at d;cases d;rfl
theorem Bn: ∀(a b:List Int),a.length=b.length→iu a b=im (a.zip b)
 |[],[],_=>rfl
 |x::a,y::b,h=>by
  rw[iu,mc,im,Bn a b (by simpa using h)]
 |[],_::_,h=>by simp at h
 |_::_,[],h=>by simp at h
theorem Gh(a b:Dg):aE Tryz.prog 141 [.sl 1 ((aq a).map fun x=>[x]),.sl 1 ((aq b).map fun x=>[x])] (dI (cQ a b)):=by
 refine⟨enters_fn' Tryz.func141 rfl (by rfl),fun I w vs g h _=> ?_⟩;have e: ∀d:Dg,((aq d).map fun x=>[x])=d.l.map fun n=>[D.sc (.int .u8 n)]:=fun d=>by unfold aq;rw[lk];rfl
 rw[e,e]at h
 match vs,g with
 |[u,v],_=>
  obtain⟨j,off,c,rfl,m⟩:=Gj (h 0 _ _ rfl rfl) (by rw[a.len];decide);obtain⟨i,f,k,rfl,o⟩:=Gj (h 1 _ _ rfl rfl) (by rw[b.len];decide);rw[a.len,b.len];refine(xo w j i off f 32 c k a.l b.l a.by_ b.by_ a.len b.len m o).mono ?_;rintro e w' ⟨rfl,rfl⟩;rw[Bn _ _ (by rw[a.len,b.len])];exact⟨_,rfl,.sc _,Below.refl _ _⟩
theorem Fc(a b:Dg):aE Tryz.prog 117 [.agg (aq a),.agg (aq b)] (dI (cQ a b)):=by
 refine aI (F:=B5) TA (by simp[B5]) ?_;simp only[B5]
 repeat' first|refine ak (fun _=> ?_) fun _=> ?_|refine aD ?_|refine aj.data (Gh _ _) rfl ?_|simp only[C2,Le,wy,qg,aC,reduceCtorEq,reduceIte,Nat.reduceAdd,Nat.reduceMul,Nat.reduceEqDiff,Nat.reduceLT,Nat.reduceLeDiff,Nat.reduceSub,ax,aB,ay,au]
theorem Bv(x:ar):aE Tryz.prog 115 [.agg (ab x)] (dB (isZero x.p)):=by
 refine aI (F:=zt) Sf (by simp[zt]) ?_;simp only[zt]
 repeat' first|refine ak (fun _=> ?_) fun _=> ?_|refine bb trivial trivial ?_|exact ba trivial trivial|fail
 all_goals(simp_all[isZero,bS];try exact bQ)
end Go.Proofs.Q
