/- Lemmas. -/
import Derived.Test.YtellfinifjmloaaGreatDoorPAL
import Derived.Test.YtellfinifjmloaaGreatDoorPAP
set_option linter.unusedVariables false
set_option linter.unusedSimpArgs false
namespace Go.Proofs.Q
open Go Go.Bb Go.RowKit Go.Proofs.Lg
open Go.Ab (D RD)
theorem pd{c:aC}(h:ft c=0):(1≤c.kind∧c.kind≤7)∧pb (lr c)=true∧(c.kind=5→nZ c.lines=0):=by
 unfold ft at h;split at h
 ·omega
 rename_i d;split at h
 ·omega
 rename_i a;refine⟨by omega,by simpa using a,fun b=> ?_⟩;rw[if_neg a8,if_neg a8,if_neg a8]at h;split at h
 ·omega
 first|exact h|(rw[if_pos b]at h;exact h)
theorem Fs{c:aC}(h:ft c=0):c.lines.length≤2000:=by
 obtain⟨_,a,d⟩:=pd h;by_cases b:c.kind=5
 ·have:=d b;unfold nZ at this;split at this
  ·omega
  split at this
  ·omega
  ·omega
 ·simp only[pb,er,decide_eq_true_eq]at a;have:((lr c).lines.length:Int)=0:=a.2.2.2.2.2.2.2.2.1;have e:(lr c).lines=c.lines:=by simp[lr,b]
  rw[e]at this;omega
theorem wY{c:aC}(h:ft c=0):c.over.length≤400:=by
 obtain⟨d,a,_⟩:=pd h;by_cases e:c.kind=5∨c.kind=1
 ·simp only[pb,er,decide_eq_true_eq]at a;have:((lr c).over.length:Int)=0:=a.2.2.2.2.2.2.2.2.2;have b:(lr c).over=c.over:=by simp only[lr];rw[if_neg a8]
  rw[b]at this;omega
 ·unfold ft at h;rw[if_neg a8,if_neg (by simp[a]),if_neg a8]at h;split at h
  ·omega
  rw[if_neg a8]at h;split at h
  ·omega
  rw[if_neg a8]at h;split at h
  ·omega
  split at h
  ·omega
  omega
theorem LA{c:aC}{n:Nat}(h:c.lines.length≤2000):(fh c n).length≤4001:=by
 unfold fh
 repeat' split
 all_goals(try simp)
 omega
structure HW(c:aC):Prop where
 s:HV c
 over:c.over.length≤9223372036854775807
set_option maxHeartbeats 1000000 in
theorem a0b(l:List aC)(v: ∀c∈l,HW c)(w:l.length≤400):aG Tryz.prog 123 [.sl 139 (l.map aV)] (.tup [.sl 172 ((dW l []).1.map aI),dI (dW l []).2]):=by
 refine aM (F:=Cq) Y1 (by simp[Cq]) ?_;simp only[Cq];refine aO ab ab ?_
 refine aZ.overI l (fun k (b:List au)=>[(5,iN k),(4,.tsl 0 172 (b.map aI))]) (fun k b=>[.row 32 172 b.length]) (fun r b=>dW r b) (dW l []) (fun k b=>b.length≤4001*k) [] a8 aB aB rfl rfl (by simp) (fun k b x hg hk f o a t=> ?_) (fun b f a t=> ?_)
 ·have h:=v x (bX hg);have e:=a0f x h.s;have i:=a0i x b h.over;rw[dW]at a;by_cases d:ft x=0
  ·rw[if_neg (by simpa using d)]at a;by_cases g:gO x b=0
   ·rw[if_neg (by simpa using g)]at a;have m:=Fs d;have u:=LA (c:=x) (n:=b.length) m;have p:=ZY x b.length a8 a8 (pd d).1.1 (pd d).1.2;have q:bw (b.length+(fh x b.length).length) 296=true:=room_le a8 a8;rw[d]at e;rw[g]at i;clear h d g
    refine aO (ga @f (ga @o (ga @hg @q))) (ga @e (ga @i @p)) ?_;exact⟨b++fh x b.length,by simp,by simp,a,by simp;omega⟩
   ·rw[if_pos (by simpa using g)]at a;have j:(gO x b !=0)=true:=by simpa using g
    rw[d]at e;clear h d;refine aO (ga @f (ga @o (ga @hg @j))) (ga @e @i) ?_;rw[a];rfl
  ·rw[if_pos (by simpa using d)]at a;have j:(ft x !=0)=true:=by simpa using d
   clear h;refine aO (ga @f (ga @o (ga @hg @j))) @e ?_;rw[a];rfl
 ·rw[dW]at a;refine aO @f ab ?_;rw[a]
structure z6(p:aX):Prop where
 author:p.author.size≤9223372036854775807
 chg: ∀c∈p.changes,HW c
set_option maxHeartbeats 1000000 in
theorem Nx(p:aX)(f:z6 p):aG Tryz.prog 76 [.agg (bc p)] (.tup [.sl 172 ((dw p).1.map aI),dI (dw p).2]):=by
 have a:=Np p.author f.author;have b:=a0c p.deps;by_cases h:p.changes.length≤400
 ·have g:=a0b p.changes f.chg h;have d:decide ((p.changes.length:Int)>400)=false:=by simp;omega
  have e:dw p=if isName p.author=false then([],5)else if 1000<(p.message.size:Int)then([],4)else if p.time<0∨1099511627776<p.time then([],2)else if gl p.deps≠0 then([],gl p.deps)else if(p.changes.length:Int)=0 then([],1)else dW p.changes []:=by
   unfold dw;rw[if_neg (c:=400<(p.changes.length:Int)) a8]
  rw[e];clear e f h;refine aM (F:=tt) My (by simp[tt]) ?_;simp only[tt]
  repeat' first|refine ae (fun _=> ?_) fun _=> ?_|refine ay @d (ga @a (ga @b @g)) ?_|exact ax @d (ga @a (ga @b @g))|fail
  all_goals(clear a b g;first|(simp_all;done)|(simp_all;omega)|((repeat' split)<;>simp_all<;>omega))
 ·have d:decide ((p.changes.length:Int)>400)=true:=by simp;omega
  have e:dw p=if isName p.author=false then([],5)else if 1000<(p.message.size:Int)then([],4)else if p.time<0∨1099511627776<p.time then([],2)else if gl p.deps≠0 then([],gl p.deps)else if(p.changes.length:Int)=0 then([],1)else([],4):=by
   unfold dw;rw[if_pos (c:=400<(p.changes.length:Int)) a8]
  rw[e];clear e f h;refine aM (F:=tt) My (by simp[tt]) ?_;simp only[tt]
  repeat' first|refine ae (fun _=> ?_) fun _=> ?_|refine ay @d (ga @a @b) ?_|exact ax @d (ga @a @b)|fail
  all_goals(clear a b;first|(simp_all;done)|(simp_all;omega)|((repeat' split)<;>simp_all<;>omega))
structure EI(p:aX):Prop where
 deps:p.deps.length≤1000000
 chg:p.changes.length≤1000000
 kind: ∀c∈p.changes,1≤c.kind∧c.kind≤7∧c.over.length≤1000000000∧c.lines.length≤1000000000
 good:fj 6 (ll p)
 nodes:bJ 6 (ll p)≤20000
 size:(fZ 6 (ll p)).size≤1000000000000
set_option maxHeartbeats 1000000 in
theorem a0e(p:aX)(hp:EI p):aG Tryz.prog 158 [.agg (bc p)] (.tup [dS (pc p).1,dI (pc p).2]):=by
 have o:=hp.deps;have q:=hp.chg;have m:=ZO hp.good (by decide) hp.nodes hp.size;have e:=hp.kind;clear hp;refine aM (F:=Cu) Y4 (by simp[Cu]) ?_;simp only[Cu];refine aO ab ab ?_
 refine aZ.overI p.deps (fun k (b:List Sx)=>[(6,iN k),(4,.tsl 0 3 (b.map ak))]) (fun k b=>[.row 217 3 b.length,.row 217 3 0]) (fun r b=>b++r.map gm) (p.deps.map gm) (fun k b=>b.length=k) [] a8 aB aB rfl rfl rfl (fun k b x hg hk c g a d=> ?_) (fun b c a d=> ?_)
 ·have f:bw (b.length+1) 48=true:=by simp only[bw,decide_eq_true_eq];omega
  refine aO (ga @c (ga @g (ga @hg @f))) @Ny ?_;exact⟨b++[gm x],by simp,by simp,by simpa using a,by simp[d]⟩
 ·simp at a;subst a;refine aO @c ab ?_;refine aZ.overI p.changes (fun k (b:List Sx)=>[(7,iN k),(5,.tsl 1 3 (b.map ak))]) (fun k b=>[.row 217 3 p.deps.length,.row 217 3 b.length]) (fun r b=>b++r.map bY) (p.changes.map bY) (fun k b=>b.length=k) [] a8 aB aB rfl rfl rfl (fun k b x hg hk c g a d=> ?_) (fun b c a d=> ?_)
  ·have f:bw (b.length+1) 48=true:=by simp only[bw,decide_eq_true_eq];omega
   obtain⟨h,i,j,l⟩:=e x (bX hg);have n:=a0a x h i j l;clear h i j l;refine aO (ga @c (ga @g (ga @hg @f))) @n ?_;exact⟨b++[bY x],by simp,by simp,by simpa using a,by simp[d]⟩
  ·simp at a;subst a
   repeat' first|refine ae (fun _=> ?_) fun _=> ?_|refine aL ?_|refine aq.data (vw _) rfl ?_|refine aq.data (qn _) rfl ?_|refine aq.data (tK _) rfl ?_|refine aq.data (U1 _ _ _ _ _ _) rfl ?_|refine aq.data (m) rfl ?_|simp only[c,bne_self_eq_false,wy,qg,aH,simprocAttr,aA,aF,aE,aw]
   all_goals(unfold pc lZ;first|(rw[if_pos a8];done)|(rw[if_neg a8];done))
structure cz(p:aX):Prop where
 z:z6 p
 enc:(dw p).2=0→EI p
theorem Nr(p:aX)(b:cz p):aG Tryz.prog 104 [.agg (bc p)] (.tup [dS (cV p).1,dI (cV p).2]):=by
 have a:=Nx p b.z;unfold cV;by_cases h:(dw p).2=0
 ·have c:=a0e p (b.enc h);rw[h]at a;rw[if_neg (by simpa using h)];clear h;refine aM (F:=th) Mr (by simp[th]) ?_;simp only[th];exact bU ab (ga @a @c)
 ·have d:((dw p).2 !=0)=true:=by simpa using h
  rw[if_pos h];refine aM (F:=th) Mr (by simp[th]) ?_;simp only[th];exact bU @d @a
theorem ZX(p:aX)(b:cz p):aG Tryz.prog 64 [.agg (bc p)] (dI (iZ p)):=by
 have a:=Nr p b;refine aM (F:=Cc) XQ (by simp[Cc]) ?_;simp only[Cc];refine aO ab @a ?_
 all_goals rfl
theorem rD(x:af)(d:Dg):aG Tryz.prog 77 [.agg (aj x),.agg (aP d)] (.agg (aj (whole x d))):=by
 refine aM (F:=CL) Yh (by simp[CL]) ?_;simp only[CL]
 repeat' first|refine ae (fun _=> ?_) fun _=> ?_|refine ay ab @kH ?_|exact ax ab @kH|fail
 all_goals(unfold whole;first|(rw[if_pos (by simp_all)];done)|(rw[if_neg (by simp_all)];done))
theorem Pm(x:Dg): ∀(l:List Dg) (k:Nat),k≤jT x l k∧jT x l k≤k+l.length
 |[],k=>by simp[jT]
 |y::l,k=>by
  unfold jT;split
  ·have:=Pm x l (k+1);simp only[aY];omega
  ·simp
theorem HM{l:List Dg}{x:Dg}{k:Nat}(h:jT x l 0=k):lL l x=if l[k]?=some x then l else l.take k++x::l.drop k:=by unfold lL;rw[h]
theorem Ex(l:List Dg)(x:Dg):(lL l x).length≤l.length+1:=by
 unfold lL;split
 ·omega
 ·have:=Pm x l 0;simp;omega
theorem vB(x:Dg)(l:List AV)(h:l.length=32):b8 l 0 32 ((aP x).map .d)=some ((aP x).map .d):=gN h (by rw[aQ,ba])
theorem Nv(l:List Dg)(z:Dg)(o:l.length≤1000000000):aG Tryz.prog 118 [.sl 32 (l.map aP),.agg (aP z)] (.sl 32 ((lL l z).map aP)):=by
 refine aM (F:=Cn) XY (by simp[Cn]) ?_;simp only[Cn];refine aO ab ab ?_;refine aZ.over l (fun k (_:Unit)=>[(5,iN k)]) (fun _ _=>[]) (fun r _=>jT z r (l.length-r.length)) (jT z l 0) () a8 aB aB rfl (by simp) (fun k _ x hg hk e j a=> ?_) (fun _ e a=> ?_)
 ·have i:l.length-(x::l.drop (k+1)).length=k:=by simp only[aY,aA];omega
  have n:l.length-(l.drop (k+1)).length=k+1:=by simp only[aA];omega
  rw[i,jT]at a;have f:(k:Int)≤(l.length:Int):=by omega
  have g:bw (l.take k).length 32=true:=by simp only[bw,decide_eq_true_eq,ck];omega
  have r2:bw ((l.take k).length+1) 32=true:=by simp only[bw,decide_eq_true_eq,ck];omega
  have m:bw ((l.take k).length+1+(l.length-k)) 32=true:=by simp only[bw,decide_eq_true_eq,ck];omega
  repeat' first|refine ae (fun _=> ?_) fun _=> ?_|refine aL ?_|refine aq.data (ot _ _) rfl ?_|simp only[e,j,hg,f,g,r2,m,vB,aQ,ba,lO,lQ,sd,wy,qg,aH,simprocAttr,aA,aF,aE,aw]
  ·rename_i h;rw[if_pos h]at a;exact⟨(),by rw[a];congr 1;omega⟩
  ·rename_i b c;rw[if_neg b]at a;rw[HM a,hg,if_pos (by rw[c])]
  ·rename_i b c;rw[if_neg b]at a;rw[HM a,hg,if_neg (by simpa using c)];simp[rF]
 ·have f:bw l.length 32=true:=by simp only[bw,decide_eq_true_eq];omega
  have g:bw (l.length+1) 32=true:=by simp only[bw,decide_eq_true_eq];omega
  have d:jT z l 0=l.length:=by rw[a];simp[jT]
  repeat' first|refine ae (fun _=> ?_) fun _=> ?_|refine aL ?_|simp only[e,f,g,vB,aQ,ba,lO,lQ,sd,wc,jl,wy,qg,aH,simprocAttr,aA,aF,aE,aw]
  rw[HM d,iA (bk _),if_neg (by simp)];simp
theorem Ow{α:Type}[DecidableEq α]: ∀(a b:List α),a.length=b.length→pK (a.zip b)=decide (a=b)
 |[],[],_=>rfl
 |x::a,y::b,h=>by
  rw[oM,pK,Ow a b (by simpa using h)];by_cases e:x=y
  ·subst e;simp
  ·simp[e]
 |[],_::_,h=>by simp at h
 |_::_,[],h=>by simp at h
theorem Ox{α:Type}[DecidableEq α](a b:List α):same a b=decide (a=b):=by
 unfold same;split
 ·rename_i h;exact Ow a b h
 ·rename_i h;symm;simp;intro e;exact h (by rw[e])
theorem Gx(a b:List af):aG Tryz.prog 18 [.sl 33 (a.map aj),.sl 33 (b.map aj)] (dB (decide (a=b))):=by
 rw[←Ox];refine aG.big (enters_of Mx) 0 rfl fun j=> ?_;rw[aQ]at j;refine aM (F:=Cm) Mx (by simp[Cm]) ?_;simp only[Cm]
 repeat' first|refine ae (fun _=> ?_) fun _=> ?_|refine ay ab ab ?_|exact ax ab ab|fail
 ·all_goals(simp_all[same,cG];try exact cB)
 ·rename_i g;have c:a.length=b.length:=by simp at g;omega
  refine aZ.over (a.zip b) (fun k (_:Unit)=>[(5,iN k)]) (fun _ _=>[]) (fun l _=>pK l) (same a b) () (by simp[c];omega) aB aB rfl (by simp[same,c]) (fun k _ x hg hk i f h=> ?_) (fun _ i h=> ?_)
  ·obtain⟨d,e⟩:=yO hg;have hk:(k:Int)<(a.length:Int):=by have:=(b9.1 d).1;omega
   repeat' first|refine ae (fun _=> ?_) fun _=> ?_|refine ay (ga @d (ga @e (ga @hk @f))) ab ?_|exact ax (ga @d (ga @e (ga @hk @f))) ab|fail
   all_goals(simp_all[pK,cG];try exact cB)
  ·have hk:((a.zip b).length:Int)=a.length:=by simp[c]
   refine aO @hk ab ?_
   all_goals(simp_all[pK,cG];try exact cB)
theorem aC.eq_iff(a b:aC):a=b↔a.kind=b.kind∧a.file=b.file∧a.type=b.type∧a.parent=b.parent∧a.name=b.name∧a.mode=b.mode∧a.data=b.data∧a.after=b.after∧a.before=b.before∧a.lines=b.lines∧a.over=b.over:=by
 cases a;cases b;simp only[aC.mk.injEq]
theorem aX.eq_iff(a b:aX):a=b↔a.author=b.author∧a.message=b.message∧a.time=b.time∧a.deps=b.deps∧a.changes=b.changes:=by
 cases a;cases b;simp only[aX.mk.injEq]
set_option maxHeartbeats 2000000 in
theorem DR(p:aX)(hb:p.changes.length≤9223372036854775807):aG Tryz.prog 31 [.agg (bc p)] (dB (jC p)):=by
 refine aM (F:=Ch) XV (by simp[Ch]) ?_;simp only[Ch];refine aO ab ab ?_
 refine aZ.over p.changes (fun k (b:Int×List aa)=>[(4,iN k),(3,.d (.sc (.int .i64 b.1)))]) (fun _ b=>b.2) (fun l b=>ra l b.1) (ra p.changes (W (p.author.size+p.message.size))) (W (p.author.size+p.message.size),[]) hb aB aB rfl rfl (fun k b x hg hk c e a=> ?_) (fun b c a=> ?_)
 ·obtain⟨n,J⟩:=b;rw[ra]at a;dsimp only at a
  repeat' first|refine ae (fun _=> ?_) fun _=> ?_|refine ay (ga @c (ga @e (ga @hg (ga @fb (ga @de @wj))))) @Nl ?_|exact ax (ga @c (ga @e (ga @hg (ga @fb (ga @de @wj))))) @Nl|fail
  ·rename_i h;rw[jC,a,if_pos (.inl h)]
  ·rename_i h;rw[jC,a,if_pos (.inr a8)]
  ·rename_i f g;rw[if_neg (by
    rintro(h|h); · simp[f]at h
    ·omega)]at a
   exact⟨(_,_),rfl,rfl,a⟩
 ·obtain⟨n,J⟩:=b;rw[ra]at a;dsimp only at a
  repeat' first|refine ae (fun _=> ?_) fun _=> ?_|refine ay @c ab ?_|exact ax @c ab|fail
  all_goals(simp only[jC,a];simp_all;try omega)
theorem JP(p:aX):(cV p).1.size≤65536:=by
 unfold cV pc;split
 ·exact fy _
 ·split
  ·exact fy _
  ·rename_i h;exact Nat.le_of_not_lt h
theorem uH{p:aX}(h:iZ p=0):(dw p).2=0:=by
 unfold iZ cV at h;split at h
 ·assumption
 ·rename_i a;simpa using a
theorem Jb: ∀{l:List aC} {own:List au},(dW l own).2=0→ ∀c∈l,ft c=0
 |[],_,_,c,hc=>by cases hc
 |x::l,own,h,c,hc=>by
  rw[dW]at h;split at h
  ·rename_i a;exact absurd h a
  split at h
  ·rename_i a;exact absurd h a
  rename_i a b;rcases bM.1 hc with rfl|hc
  ·simpa using a
  ·exact Jb h c hc
theorem V3{c:aC}{n:Nat}(h:c.over.length≤400): ∀x∈fh c n,x.over.length≤400:=by
 intro x a;unfold fh at a
 repeat' split at a
 all_goals first
  |(rw[iB]at a;subst a;first|exact h|exact fy _)
  |skip
 rcases eJ.1 a with a|a
 ·obtain⟨i,_,rfl⟩:=List.mem_mapIdx.1 a;exact fy _
 ·obtain⟨i,_,rfl⟩:=bR.1 a;exact fy _
theorem F6: ∀{l:List aC} {own:List au},(∀x∈own,x.over.length≤400)→ ∀x∈(dW l own).1,x.over.length≤400
 |[],_,h,x,a=>h x a
 |c::l,own,h,x,a=>by
  rw[dW]at a;split at a
  ·cases a
  rename_i d;split at a
  ·cases a
  refine F6 (l:=l) (own:=own++fh c own.length) (fun y b=> ?_) x a;rcases eJ.1 b with b|b
  ·exact h y b
  ·exact V3 (wY (by simpa using d)) y b
theorem zw: ∀{l:List aC} {own:List au},(dW l own).1.length≤own.length+4001*l.length
 |[],own=>by simp[dW]
 |c::l,own=>by
  rw[dW];split
  ·simp
  rename_i a;split
  ·simp
  have:=zw (l:=l) (own:=own++fh c own.length);have b:=LA (c:=c) (n:=own.length) (Fs (by simpa using a));simp only[aR,aY]at*;omega
theorem jy{p:aX}(h:(dw p).2=0):p.deps.length≤100∧p.changes.length≤400∧(∀c∈p.changes,ft c=0)∧dw p=dW p.changes []∧isName p.author=true∧p.message.size≤1000∧0≤p.time∧p.time≤1099511627776:=by
 unfold dw at h⊢;split at h
 ·cases h
 split at h
 ·cases h
 split at h
 ·cases h
 split at h
 ·rename_i d;exact absurd h d
 split at h
 ·cases h
 split at h
 ·cases h
 rename_i a a2 a3 a4 a5 b;refine⟨?_,by omega,Jb h,?_,by simpa using a,by omega,by omega,by omega⟩
 ·simp only[ne_eq,Decidable.not_not]at a4;unfold gl at a4;split at a4
  ·cases a4
  ·omega
 ·rw[if_neg a,if_neg a2,if_neg a3,if_neg a4,if_neg a5,if_neg b]
theorem Ns(p:aX)(d:cz p):aG Tryz.prog 69 [.agg (bc p)] (.tup [.agg (aP (bq ar p).1),dI (bq ar p).2]):=by
 have a:=Nr p d;have b:=ZQ (cV p).1 (by have:=JP p;omega);unfold bq;by_cases h:(cV p).2=0
 ·rw[h]at a;rw[if_neg (by simpa using h)];clear h;refine aM (F:=tj) Ms (by simp[tj]) ?_;simp only[tj];exact bU (ga @eo @ba) (ga @a @b)
 ·have c:((cV p).2 !=0)=true:=by simpa using h
  rw[if_pos h];refine aM (F:=tj) Ms (by simp[tj]) ?_;simp only[tj];exact bU (ga @c (ga @eo @ba)) @a
theorem Pp: ∀(r:List af) (b:List Dg),(mF r b).length≤b.length+r.length
 |[],b=>bk _
 |x::r,b=>by
  rw[mF];have a:=Pp r (if isZero x.p then b else lL b x.p);have d:=Ex b x.p;rw[aY];by_cases c:isZero x.p=true
  ·rw[if_pos c]at a⊢;omega
  ·rw[if_neg c]at a⊢;omega
set_option maxHeartbeats 2000000 in
theorem Nt(p:aX)(D:cz p):aG Tryz.prog 73 [.agg (bc p)] (.sl 32 ((cD p).map aP)):=by
 have s:=ZX p D;unfold cD;by_cases h:iZ p=0
 ·rw[if_neg (by simpa using h)];rw[h]at s;obtain⟨E,B,u,_⟩:=jy (uH h);clear h;refine aM (F:=tq) Mv (by simp[tq]) ?_;simp only[tq];refine aO ab @s ?_
  refine aZ.overI p.deps (fun k (b:List Dg)=>[(4,iN k),(3,.d (.sl 32 (b.map aP)))]) (fun _ _=>[]) (fun r b=>mE r b) (mE p.deps []) (fun k b=>b.length≤k) [] a8 aB aB rfl rfl (by simp) (fun k b x hg hk a o e l=> ?_) (fun b a e l=> ?_)
  ·have j:=Nv b x a8;have w:=Ex b x;rw[mE]at e;refine aO (ga @a (ga @o @hg)) @j ?_;exact⟨_,rfl,e,by omega⟩
  ·rw[mE]at e;rw[e];clear e;refine aO @a ab ?_;refine aZ.overI p.changes (fun k (b:List Dg×List aa)=>[(5,iN k),(3,.d (.sl 32 (b.1.map aP)))]) (fun _ b=>b.2) (fun r b=>ni r b.1) (ni p.changes b) (fun k b=>b.1.length≤100+404*k) (b,[]) a8 aB aB rfl rfl (by simp;omega) (fun k b x hg hk a o e l=> ?_) (fun b a e l=> ?_)
   ·obtain⟨b,J⟩:=b;have C:=wY (u x (bX hg));have g:bw (4+x.over.length) 40=true:=room_le a8 a8;dsimp only at e l;rw[ni]at e;refine aO (ga @a (ga @o (ga @hg (ga @fb (ga @de (ga @g @wj)))))) ab ?_;obtain⟨L,n⟩: ∃L,L=kJ x:=⟨_,rfl⟩
    have f:(aj x.file::aj x.parent::aj x.after::aj x.before::List.map aj x.over)=L.map aj:=by rw[n];rfl
    have A:L.length=4+x.over.length:=by rw[n];simp[kJ];omega
    rw[←n]at e;rw[f];clear n f g hg a;refine aZ.overI L (fun k (b:List Dg)=>[(8,iN k),(3,.d (.sl 32 (b.map aP)))]) (fun _ _=>J++[.cells ((aV x).map .d),.row 27 33 (4+x.over.length)]) (fun r b=>mF r b) (mF L b) (fun m b=>b.length≤100+404*k+m) b a8 aB aB rfl rfl a8 (fun m b y hg hm a i c t=> ?_) (fun b a c t=> ?_)
    ·rw[mF]at c;have j:=Nv b y.p a8;have w:=Ex b y.p;by_cases q:isZero y.p=true
     ·rw[if_pos q]at c;clear j w;refine aO (ga @a (ga @i (ga @hg @q))) @kH ?_;exact⟨_,rfl,c,by omega⟩
     ·have v:isZero y.p=false:=by simpa using q
      rw[if_neg q]at c;refine aO (ga @a (ga @i (ga @hg @v))) (ga @kH @j) ?_;exact⟨_,rfl,c,by omega⟩
    ·rw[mF]at c;rw[c]at e;refine aO (ga @a @o) ab ?_;exact⟨(_,_),rfl,rfl,e,by dsimp only;omega⟩
   ·rw[ni]at e;refine aO @a ab ?_;rw[e]
 ·have z:(iZ p !=0)=true:=by simpa using h
  rw[if_pos h];refine aM (F:=tq) Mv (by simp[tq]) ?_;simp only[tq];exact bU @z @s
end Go.Proofs.Q
namespace Go.Proofs.Lg
open Go Go.RowKit
attribute [local go_sem↓] Go.wp_at_zero Go.wp_at_succ
theorem a2T(w:World)(b f off e c g:Nat)(x y:List Int)(o:Bytes x)(p:Bytes y)(n:x.length=y.length)
  (l: ∀i z,x[i]?=some z→w.cell? ⟨b,off+i,none⟩=some (Value.int .u8 z)) (m: ∀i z,y[i]?=some z→w.cell? ⟨f,e+i,none⟩=some (Value.int .u8 z)):
  (Extern.BytealgCompare.compare #[.slice (some ⟨b,off,none⟩) x.length c,.slice (some ⟨f,e,none⟩) y.length g]).run Tryz.prog w= .ok (.int .i64 (iJ x y)) w:=by
 have j:=run_loadBytes (P:=Tryz.prog) w b x off .empty l;have k:=run_loadBytes (P:=Tryz.prog) w f y e .empty m;have hc: ∀a b:Value,Extern.BytealgCompare.compare #[a,b]=(Extern.Bytes.bytesOf a>>=fun x=>Extern.Bytes.bytesOf b>>=fun y=>pure (goInt (Extern.BytealgCompare.cmp x y))):=fun _ _=>rfl;rw[hc];simp only[Extern.Bytes.bytesOf,bF,j,k,bL,bZ]
 have: ∀d:List Int,(⟨ByteArray.empty.data++(gv d).data⟩:ByteArray)=gv d:=fun d=>by cases h:gv d;simp
 rw[this,this,RV x y o p n];rfl
set_option maxHeartbeats 400000 in
set_option maxRecDepth 100000 in
theorem zl(w:World)(b f off a n c h:Nat)(x y:List Int)(l:Bytes x)(m:Bytes y)(g:x.length=n)(d:y.length=n)
  (j: ∀i z,x[i]?=some z→w.cell? ⟨b,off+i,none⟩=some (Value.int .u8 z)) (k: ∀i z,y[i]?=some z→w.cell? ⟨f,a+i,none⟩=some (Value.int .u8 z)):
  Calls Tryz.prog 92 #[.slice (some ⟨b,off,none⟩) n c,.slice (some ⟨f,a,none⟩) n h] w fun e w'=>e= .returned (.int .i64 (iJ x y))∧w=w':=by
 have e:=a2T w b f off a c h x y l m (g.trans d.symm) j k;rw[g,d]at e;have E:=Lib.hid e;clear e j k g d
 go_enter Tryz.func92,Tryz.ntmps92
 go_wp2
 rw[run_callFunc_extern Tryz.func147 (by kernel_rfl) (by kernel_rfl) (by kernel_rfl) (e:=Extern.BytealgCompare.compare) (by kernel_rfl),E.out];simp only[Result.andThen];rw[Oper.upon_value]
 go_wp2
 go_ret
 exact⟨rfl,rfl⟩
end Go.Proofs.Lg
namespace Go.Proofs.Q
open Go Go.Bb Go.RowKit Go.Proofs.Lg
open Go.Ab (D RD)
theorem enters_fn'{P:Program}{f:FuncId}{fn:Func}{c:Code}(a:P.funcs[f]?=some fn)(hb:fn.body=some c)(d:(fn.name== "runtime.NumGoroutine")=false):Enters P f:=fun args w=>by
 have b:fn.name≠ "runtime.NumGoroutine":=by simpa using d
 simp[callFunc,a,b,hb,mark]
theorem IP{I:Nat→Nat}{w:World}{v:Value}{x:List Int}(h:RD I w v (.sl 1 (x.map fun n=>[D.sc (.int .u8 n)])))(s:0<x.length): ∃b off c,v= .slice (some ⟨b,off,none⟩) x.length c∧ ∀i z,x[i]?=some z→w.cell? ⟨b,off+i,none⟩=some (Value.int .u8 z):=by
 obtain⟨a,c,us,rfl,o,p,q,f,j⟩:=h.sl_inv;obtain⟨b,off,rfl,hc⟩:=j (by intro e;have:=congrArg List.length e;rw[aQ]at this;simp only[b6]at this;omega);have g:(x.map fun n=>[D.sc (.int .u8 n)]).flatten=x.map fun n=>D.sc (.int .u8 n):=by
  clear o p q f j hc s h
  induction x with
  |nil=>rfl
  |cons a l t=>simp[t]
 rw[g]at f;refine⟨b,off,c,by rw[aQ],fun i z m=> ?_⟩;have r:=f.1;rw[aQ]at r;have hi:=(b9.1 m).1;have k:us[i]?=some us[i]:=bN a8;have d:=f.2.2 i _ _ k (by rw[dL,m];rfl);rw[(hc i _ k).2];congr 1;generalize us[i]=u at d;cases d;rfl
theorem Dq: ∀(a b:List Int),a.length=b.length→iJ a b=iG (a.zip b)
 |[],[],_=>rfl
 |x::a,y::b,h=>by
  rw[iJ,oM,iG,Dq a b (by simpa using h)]
 |[],_::_,h=>by simp at h
 |_::_,[],h=>by simp at h
theorem IN(a b:Dg):aG Tryz.prog 92 [.sl 1 ((aP a).map fun x=>[x]),.sl 1 ((aP b).map fun x=>[x])] (dI (bS a b)):=by
 refine⟨enters_fn' Tryz.func92 rfl (by rfl),fun I w vs g h _=> ?_⟩;have e: ∀d:Dg,((aP d).map fun x=>[x])=d.l.map fun n=>[D.sc (.int .u8 n)]:=fun d=>by unfold aP;rw[nJ];rfl
 rw[e,e]at h
 match vs,g with
 |[u,v],_=>
  obtain⟨j,off,c,rfl,m⟩:=IP (h 0 _ _ rfl rfl) (by rw[a.len];decide);obtain⟨i,f,k,rfl,o⟩:=IP (h 1 _ _ rfl rfl) (by rw[b.len];decide);rw[a.len,b.len];refine(zl w j i off f 32 c k a.l b.l a.by_ b.by_ a.len b.len m o).mono ?_;rintro e w' ⟨rfl,rfl⟩;rw[Dq _ _ (by rw[a.len,b.len])];exact⟨_,rfl,.sc _,Below.refl _ _⟩
theorem yr(a b:Dg):aG Tryz.prog 163 [.agg (aP a),.agg (aP b)] (dI (bS a b)):=by
 refine aM (F:=Da) YA (by simp[Da]) ?_;simp only[Da]
 repeat' first|refine ae (fun _=> ?_) fun _=> ?_|refine aL ?_|refine aq.data (IN _ _) rfl ?_|simp only[Eg,OI,wy,qg,aH,reduceCtorEq,reduceIte,Nat.reduceAdd,Nat.reduceMul,Nat.reduceEqDiff,Nat.reduceLT,Nat.reduceLeDiff,Nat.reduceSub,aA,aF,aE,aw]
theorem DK(x:af):aG Tryz.prog 132 [.agg (aj x)] (dB (isZero x.p)):=by
 refine aM (F:=Bp) X5 (by simp[Bp]) ?_;simp only[Bp]
 repeat' first|refine ae (fun _=> ?_) fun _=> ?_|refine ay ab ab ?_|exact ax ab ab|fail
 all_goals(simp_all[isZero,cG];try exact cB)
end Go.Proofs.Q
