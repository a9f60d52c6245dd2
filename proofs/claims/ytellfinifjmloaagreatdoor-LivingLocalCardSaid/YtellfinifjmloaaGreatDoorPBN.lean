/- Lemmas. -/
import Derived.Test.YtellfinifjmloaaGreatDoorPBJ
import Derived.Test.YtellfinifjmloaaGreatDoorPBM
set_option linter.unusedVariables false
set_option linter.unusedSimpArgs false
namespace Go.Proofs.Q
open Go Go.Bb Go.RowKit Go.Proofs.Lg
open Go.Ab (D RD)
def kY(l:List af):Prop:=l.Pairwise fun a b=>cY a b<0
theorem kY.nodup{l:List af}(h:kY l):l.Nodup:=h.imp fun h e=>by subst e;exact vb _ h
theorem Hw: ∀{a b:List af},kY a→kY b→(∀x,x∈a↔x∈b)→a=b
 |[],[],_,_,_=>rfl
 |[],y::b,_,_,h=>absurd ((h y).2 (by simp)) (by simp)
 |x::a,[],_,_,h=>absurd ((h x).1 (by simp)) (by simp)
 |x::a,y::b,ha,hb,h=>by
  obtain⟨f,i⟩:=gY.1 ha;obtain⟨g,j⟩:=gY.1 hb;have e:x=y:=by
   apply iy;intro hne;have k:x∈b:=by
    rcases bM.1 ((h x).1 (by simp))with e|e
    ·exact absurd e hne
    ·exact e
   have l:y∈a:=by
    rcases bM.1 ((h y).2 (by simp))with e|e
    ·exact absurd e.symm hne
    ·exact e
   exact vb _ (sG (f y l) (g x k))
  subst e;congr 1;refine Hw i j fun z=> ?_;have d:=h z;simp only[bM]at d;constructor
  ·intro c;rcases d.1 (.inr c)with e|e
   ·subst e;exact absurd (f z c) (vb _)
   ·exact e
  ·intro c;rcases d.2 (.inr c)with e|e
   ·subst e;exact absurd (g z c) (vb _)
   ·exact e
theorem KF(d:af): ∀(l:List af) (k:Nat),∃j,jE d l k=k+j∧j≤l.length∧(∀x∈l.take j,cY x d<0)∧(∀y,l[j]?=some y→ ¬cY y d<0)
 |[],k=>⟨0,rfl,bk _,by simp,by simp⟩
 |y::l,k=>by
  unfold jE;split
  ·rename_i h;obtain⟨j,f,g,c,e⟩:=KF d l (k+1);refine⟨j+1,by omega,by simp;omega,?_,fun z b=>e z (by simpa using b)⟩;intro x a;rw[jj]at a;rcases bM.1 a with rfl|a
   ·exact h
   ·exact c x a
  ·rename_i h;exact⟨0,rfl,fy _,by simp,fun z b=>by simp at b;subst b;exact h⟩
theorem KG(l:List af)(d:af)(o:kY l):kY (nX l d)∧ ∀x,x∈nX l d↔x=d∨x∈l:=by
 obtain⟨j,m,w,q,s⟩:=KF d l 0;rw[aw]at m;unfold nX;rw[m];split
 ·rename_i h;have:=bX h;exact⟨o,fun x=>⟨.inr,fun h=>h.elim (fun e=>by rw[e];exact this) id⟩⟩
 ·rename_i h;have f:=ji j l;have i:kY (l.take j++l.drop j):=by rw[f];exact o
  obtain⟨u,k,v⟩:=wi.1 i;have t: ∀y∈l.drop j,cY d y<0:=by
   intro y c;cases g:l.drop j with
   |nil=>rw[g]at c;cases c
   |cons z r=>
    have p:l[j]?=some z:=by
     have:(l.drop j)[0]?=some z:=by rw[g];rfl
     rw[fm]at this;simpa using this
    have n:=FI (s z p) (fun e=>h (by rw[←e];exact p));rw[g]at c k;rcases bM.1 c with rfl|c
    ·exact n
    ·exact sG n ((gY.1 k).1 y c)
  refine⟨?_,fun x=> ?_⟩
  ·refine wi.2 ⟨u,gY.2 ⟨t,k⟩,fun a ha b hb=> ?_⟩;rcases bM.1 hb with rfl|hb
   ·exact q a ha
   ·exact v a ha b hb
  ·have hm:x∈l↔x∈l.take j∨x∈l.drop j:=by
    conv=>lhs;rw[←f]
    exact eJ
   rw[eJ,bM,hm];constructor
   ·rintro(h|h|h)
    ·exact .inr (.inl h)
    ·exact .inl h
    ·exact .inr (.inr h)
   ·rintro(h|h|h)
    ·exact .inr (.inl h)
    ·exact .inl h
    ·exact .inr (.inr h)
theorem vc: ∀(r l:List af),kY l→kY (fF r l)∧ ∀x,x∈fF r l↔x∈r∨x∈l
 |[],l,h=>⟨h,fun x=>by simp[fF]⟩
 |d::r,l,h=>by
  obtain⟨a,b⟩:=KG l d h;obtain⟨c,e⟩:=vc r (nX l d) a;refine⟨c,fun x=> ?_⟩;rw[fF,e,b,bM];constructor
  ·rintro(h|h|h)
   ·exact .inl (.inr h)
   ·exact .inl (.inl h)
   ·exact .inr h
  ·rintro((h|h)|h)
   ·exact .inr (.inl h)
   ·exact .inl h
   ·exact .inr (.inr h)
theorem TT(a b:af):(eN a b||eN b a)=true:=by
 have:=Ac a b;unfold eN;rw[jf,decide_eq_true_eq,decide_eq_true_eq];omega
theorem OM{l:List af}(h:l.Nodup):kY (l.mergeSort eN):=by
 have d:(l.mergeSort eN).Nodup:=(List.mergeSort_perm l eN).nodup_iff.2 h;have hp:=List.pairwise_mergeSort (le:=eN) (fun a b c f g=>TU f g) TT l;have ha:=List.Pairwise.and hp d;refine List.Pairwise.imp (fun{a b} h=> ?_) ha;have i:cY a b≠0:=fun e=>h.2 ((va a b).1 e);have j:cY a b≤0:=of_decide_eq_true h.1;clear h ha hp d;omega
theorem a3t{l:List af}(h:l.Nodup):l.mergeSort eN=fF l []:=
 Hw (OM h) (vc l [] .nil).1 fun x=>by
  rw[List.mem_mergeSort,(vc l [] .nil).2];simp
theorem Iq: ∀{l:List af},gG l=true→kY l
 |[],_=> .nil
 |[x],_=>gY.2 ⟨fun _ h=>(by cases h),.nil⟩
 |x::y::r,h=>by
  rw[gG]at h;by_cases b:0≤cY x y
  ·rw[if_pos b]at h;cases h
  ·rw[if_neg b]at h;have c:=Iq h;refine gY.2 ⟨fun z a=> ?_,c⟩;rcases bM.1 a with rfl|a
   ·omega
   ·exact sG a8 ((gY.1 c).1 z a)
theorem LB(c:aC)(k:Nat): ∀x∈fh c k,x.over=[]∨x.over=c.over:=by
 intro x a;unfold fh at a
 repeat' split at a
 all_goals try(simp only[iB]at a;subst a;first|exact .inl rfl|exact .inr rfl)
 rcases eJ.1 a with a|a
 ·obtain⟨i,hi,rfl⟩:=List.mem_mapIdx.1 a;exact .inl rfl
 ·obtain⟨i,hi,rfl⟩:=bR.1 a;exact .inl rfl
theorem J8: ∀{l:List aC} {own:List au} (x:au),x∈(dW l own).1→x∈own∨ ∃c∈l,x.over=[]∨x.over=c.over
 |[],own,x,h=> .inl h
 |c::l,own,x,h=>by
  rw[dW]at h;by_cases a:ft c≠0
  ·rw[if_pos a]at h;cases h
  ·rw[if_neg a]at h;by_cases b:gO c own≠0
   ·rw[if_pos b]at h;cases h
   ·rw[if_neg b]at h;rcases J8 x h with h3|⟨y,h3,h4⟩
    ·rcases eJ.1 h3 with h3|h3
     ·exact .inl h3
     ·exact .inr ⟨c,by simp,LB c _ x h3⟩
    ·exact .inr ⟨y,eQ _ h3,h4⟩
theorem Sy{c:aC}(h:ft c=0):gG c.over=true:=by
 rw[←JW]at h;by_cases ha:gG c.over=true
 ·exact ha
 ·exfalso;unfold wZ at h;rw[if_pos (c:=gG c.over=false) (by simpa using ha)]at h
  repeat' split at h
  all_goals first
   |exact absurd h (by decide)
   |exact absurd h ‹_›
theorem a3T{l:List af}{d:Dg}(t:kY l)(h: ∀y∈l,isZero y.p=false→y.p≠d):(l.map (whole · d)).Nodup:=by
 have s:=t.nodup;refine List.pairwise_map.2 (List.Pairwise.imp_of_mem (fun{a b} ha hb hab e=>hab ?_) s);obtain⟨i,n⟩:=a;obtain⟨j,o⟩:=b;unfold whole at e;dsimp only at e;have k:=h _ ha;have m:=h _ hb;dsimp only at k m;by_cases f:isZero i=true∧0≤n<;>by_cases g:isZero j=true∧0≤o
 ·rw[if_pos f,if_pos g]at e;injection e with _ e2
  have q:i= .zero:=by simpa[isZero]using f.1
  have r:j= .zero:=by simpa[isZero]using g.1
  rw[q,r,e2]
 ·rw[if_pos f,if_neg g]at e;injection e with e1 e2
  have c:isZero j=true:=by
   by_cases c:isZero j=true
   ·exact c
   ·exact absurd e1.symm (m (by simpa using c))
  exact absurd ⟨c,by rw[←e2];exact f.2⟩ g
 ·rw[if_neg f,if_pos g]at e;injection e with e1 e2
  have c:isZero i=true:=by
   by_cases c:isZero i=true
   ·exact c
   ·exact absurd e1 (k (by simpa using c))
  exact absurd ⟨c,by rw[e2];exact g.2⟩ f
 ·rw[if_neg f,if_neg g]at e;exact e
theorem uP{p:aX}(h:(bq ar p).2=0):eG p=(dw p).1∧(dw p).2=0:=by
 have b:(cV p).2=0:=by
  unfold bq at h;by_cases a:(cV p).2≠0
  ·rw[if_pos a]at h;exact absurd h a
  ·simpa using a
 refine⟨by unfold eG;rw[if_neg (by simpa using b)],?_⟩;unfold cV at b;by_cases a:(dw p).2=0
 ·exact a
 ·rw[if_pos a]at b;exact absurd b a
theorem Ir{p:aX}(j:(bq ar p).1∉cD p):dR p=cT ar p:=by
 unfold dR cT;by_cases h:(bq ar p).2=0
 ·obtain⟨g,b⟩:=uP h;rw[if_neg (c:=(bq ar p).2≠0) (by simpa using h),if_neg (c:=(bq ar p).2≠0) (by simpa using h),g];congr 1;refine List.map_congr_left fun x d=> ?_;have e:(x.over.map (whole · (bq ar p).1)).mergeSort eN=fF (x.over.map (whole · (bq ar p).1)) []:=by
   refine a3t ?_;obtain⟨_,_,i,f,_⟩:=jy b;rw[f]at d;rcases J8 x d with a|⟨c,hc,a⟩
   ·cases a
   ·rcases a with a|a
    ·rw[a];exact .nil
    ·rw[a];refine a3T (Iq (Sy (i c hc))) fun y k l e=>j ?_;rw[←e];exact Ob (Ky ar h) c hc y (by unfold kJ;simp[k]) l
  rw[uT];unfold nf;rw[e]
 ·rw[if_pos h,if_pos h]
theorem LR{out:List Dg}{q:Nat×Dg}: ∀{s:aD} {i:Nat},(∀x∈s,¬bS x.id q.2<0)→jK out s i (some q)=some q
 |[],_,_=>rfl
 |x::s,i,h=>by
  have a:decide (bS x.id q.2<0)=false:=decide_eq_false (h x (by simp));have b:Dp x.id (some q)=false:=a;rw[DA,b,if_neg (by simp)];exact LR fun y c=>h y (eQ _ c)
theorem Im(l:List Dg): ∀m:List Dg,gZ l m=m.all (cW l ·)
 |[]=>rfl
 |d::m=>by
  rw[gZ,List.all_cons,Im l m];cases cW l d<;>simp
theorem LQ{out:List Dg}: ∀{s:aD} {i:Nat},dQ (bs s)→(eT (ky out) s i= -1∧jK out s i none=none)∨ ∃j x,eT (ky out) s i=((i+j:Nat):Int)∧s[j]?=some x∧jK out s i none=some (i+j,x.id)
 |[],i,_=> .inl ⟨rfl,rfl⟩
 |x::s,i,h=>by
  obtain⟨d,e⟩:=gY.1 h;have hc:(!cW out x.id&&(gZ out (cD x.pat)&&Dp x.id none))=ky out x:=by
   unfold ky;rw[Im,show Dp x.id none=true from rfl,Bool.and_true]
  rw[DA,eT,hc];by_cases hk:ky out x=true
  ·rw[if_pos hk,if_pos hk];refine .inr ⟨0,x,rfl,rfl,LR fun y f c=> ?_⟩;have:=d y.id (fV f);exact qX _ (n0 this c)
  ·rw[if_neg hk,if_neg hk];rcases LQ (i:=i+1) e with⟨a,b⟩|⟨j,y,a,b,h5⟩
   ·exact .inl ⟨a,b⟩
   ·refine .inr ⟨j+1,y,?_,by simpa using b,?_⟩
    ·rw[a];congr 1;omega
    ·rw[h5];congr 2;omega
theorem MM{s:aD}(h:dQ (bs s)): ∀(n:Nat) (O:List Dg),jM s n O=kC s n O
 |0,_=>rfl
 |n+1,O=>by
  rw[jM,kC];rcases LQ (out:=O) (i:=0) h with⟨a,b⟩|⟨j,y,a,b,h5⟩
  ·rw[a,b,if_pos (by decide)]
  ·rw[a,h5,if_neg a8];dsimp only;rw[aw,fC,b,eZ,ek,MM h n]
theorem HK{s:aD}(h:dD ar s){d:Dg}(b:d∈bs s):(dR ((ch s d).getD .zero)).1=(cT ar ((ch s d).getD .zero)).1:=by
 obtain⟨x,a,rfl⟩:=bR.1 b;rw[mf h.sorted.nodup x a,ek,Ir];rw[(h.id x a).2];exact Dz h x a
theorem oq(s:aD): ∀l:List Dg,fQ ar s l=l.flatMap fun d=>(cT ar ((ch s d).getD .zero)).1
 |[]=>rfl
 |d::l=>by rw[fQ,lR,oq s l]
theorem Kc{α β:Type}(f:α→List β): ∀l:List α,(l.flatMap f).reverse=l.reverse.flatMap fun x=>(f x).reverse
 |[]=>rfl
 |x::l=>by rw[lR,List.reverse_append,Kc f l,wk,List.flatMap_append];simp
theorem Fz{α β:Type}{f g:α→List β}: ∀{l:List α},(∀x∈l,f x=g x)→l.flatMap f=l.flatMap g
 |[],_=>rfl
 |x::l,h=>by rw[lR,lR,h x (by simp),Fz fun y a=>h y (eQ _ a)]
theorem TB{s:aD}(h:dD ar s):mj s=(fQ ar s (dN s)).reverse:=by
 unfold mj;rw[MM h.sorted,oq,Kc];refine Fz fun d a=> ?_;have hm:d∈bs s:=((ry h).2 d).1 (wh.1 a);unfold lu;rw[HK h hm]
theorem UA(V:en)(k i:af)(l:List af):ec (V++[(k,l)]) i=if i∈V.map (·.1)then ec V i else if k=i then l else[]:=by
 induction V with
 |nil=>simp[ec]
 |cons e V d=>
  rw[mO,ec,ec,d,bV];by_cases h:e.1=i
  ·rw[if_pos h,if_pos h,if_pos (by simp[h])]
  ·rw[if_neg h,if_neg h];have a:i∈(e.1::V.map (·.1))↔i∈V.map (·.1):=by
    rw[bM];exact⟨fun c=>c.resolve_left fun b=>h b.symm,.inr⟩
   simp only[a]
theorem UC(V:en)(k i:af)(l:List af):ec (V.map fun e=>if e.1=k then(e.1,e.2++l)else e) i=if k=i∧i∈V.map (·.1)then ec V i++l else ec V i:=by
 induction V with
 |nil=>simp[ec]
 |cons e V f=>
  rw[bV,ec,ec,f,bV];by_cases hk:e.1=k
  ·rw[if_pos hk];dsimp only;by_cases h:e.1=i
   ·rw[if_pos h,if_pos h,if_pos ⟨hk.symm.trans h,by simp[h]⟩]
   ·have a: ¬k=i:=fun c=>h (hk.trans c);rw[if_neg h,if_neg h,if_neg (fun b=>a b.1),if_neg (fun b=>a b.1)]
  ·rw[if_neg hk];by_cases h:e.1=i
   ·have a: ¬k=i:=fun c=>hk (h.trans c.symm);rw[if_pos h,if_pos h,if_neg (fun b=>a b.1)]
   ·rw[if_neg h,if_neg h];have d:i∈(e.1::V.map (·.1))↔i∈V.map (·.1):=by
     rw[bM];exact⟨fun b=>b.resolve_left fun c=>h c.symm,.inr⟩
    simp only[d]
theorem Uz(V:en)(k i:af)(l:List af):ec (iR V k l) i=if k=i then ec V i++l else ec V i:=by
 unfold iR;by_cases h:k∈V.map (·.1)
 ·rw[if_pos h,UC];by_cases hk:k=i
  ·rw[if_pos hk,if_pos ⟨hk,by rw[←hk];exact h⟩]
  ·rw[if_neg hk,if_neg fun a=>hk a.1]
 ·rw[if_neg h,UA];by_cases hk:k=i
  ·subst hk;rw[if_neg h,if_pos rfl,if_pos rfl,xt h];rfl
  ·rw[if_neg hk,if_neg hk];by_cases hi:i∈V.map (·.1)
   ·rw[if_pos hi]
   ·rw[if_neg hi,xt hi]
theorem QN(R:List af)(d i:af):i∈qK R d↔i=d∨i∈R:=by
 unfold qK;by_cases h:dh R d=true
 ·rw[if_pos h];exact⟨.inr,fun a=>a.elim (fun e=>by rw[e];exact(jD _ _).1 h) id⟩
 ·rw[if_neg h,eJ,iB];exact⟨fun a=>a.symm,fun a=>a.symm⟩
theorem KP(x:au): ∀(l:List af) (b:List af×en) (i:af),i∈(j7 x l b).1↔i∈b.1∨(x.kind=7∧i∈l)
 |[],b,i=>by simp[j7]
 |d::l,b,i=>by
  rw[j7,KP x l];dsimp only;by_cases a:x.kind=7
  ·rw[if_pos a,QN,bM];constructor
   ·rintro((h|h)|h)
    ·exact .inr ⟨a,.inl h⟩
    ·exact .inl h
    ·exact .inr ⟨a,.inr h.2⟩
   ·rintro(h|⟨_,h|h⟩)
    ·exact .inl (.inr h)
    ·exact .inl (.inl h)
    ·exact .inr ⟨a,h⟩
  ·rw[if_neg a];simp[a]
theorem KQ(x:au): ∀(l:List af) (b:List af×en) (i:af),l.Nodup→ec (j7 x l b).2 i=ec b.2 i++if i∈l then[x.id]else[]
 |[],b,i,_=>by simp[j7]
 |d::l,b,i,h=>by
  obtain⟨c,f⟩:=qD.1 h;rw[j7,KQ x l _ i f];dsimp only;rw[Uz];by_cases a:d=i
  ·subst a;rw[if_pos rfl,if_neg c,if_pos (by simp)];simp
  ·rw[if_neg a];have:i∈d::l↔i∈l:=by rw[bM];exact⟨fun g=>g.resolve_left fun e=>a e.symm,.inr⟩
   simp only[this]
def oE(A:List au)(i:af):List af:=(A.filter fun y=>dh y.over i).map (·.id)
theorem Fx(out:List au)(i:af):l9 out i=true↔ ¬ ∃y∈out,y.kind=7∧i∈y.over:=by
 unfold l9;rw[jX];constructor
 ·rintro h ⟨y,b,a,hi⟩;have:=h y b;rw[a,(jD _ _).2 hi]at this;simp at this
 ·intro h y b;by_cases a:y.kind=7
  ·have: ¬i∈y.over:=fun hi=>h ⟨y,b,a,hi⟩;have:dh y.over i=false:=by
    rw[←Bool.not_eq_true,jD];exact this
   rw[this];simp
  ·simp[a]
theorem FO: ∀(L out:List au) (b:List af×en),(∀x∈L,x.over.Nodup)→(∀i,i∈b.1↔ ∃y∈out,y.kind=7∧i∈y.over)→(∀i,ec b.2 i=oE out.reverse i)→ ∀i,ec (lf L b).2 i=oE (gn L out).reverse i
 |[],out,b,_,_,hV,i=>hV i
 |x::L,out,b,hn,hR,hV,i=>by
  rw[lf,gn];have c:=fun y a=>hn y (eQ _ a);have g:(dh b.1 x.id=true)↔ ¬l9 out x.id=true:=by
   rw[Fx,jD,hR,Classical.not_not]
  by_cases e:dh b.1 x.id=true
  ·rw[if_pos e,if_neg (g.1 e)];exact FO L out b c hR hV i
  ·have f:l9 out x.id=true:=iy fun h=>e (g.2 h);rw[if_neg e,if_pos f];refine FO L (x::out) _ c (fun j=> ?_) (fun j=> ?_) i
   ·rw[KP,hR];constructor
    ·rintro(⟨y,a,h⟩|h)
     ·exact⟨y,eQ _ a,h⟩
     ·exact⟨x,by simp,h⟩
    ·rintro⟨y,a,h⟩;rcases bM.1 a with rfl|a
     ·exact .inr h
     ·exact .inl ⟨y,a,h⟩
   ·rw[KQ x _ _ _ (hn x (by simp)),hV];unfold oE;rw[wk,List.filter_append,fp];congr 1;by_cases d:j∈x.over
    ·rw[if_pos d,List.filter_cons_of_pos (by simpa using(jD _ _).2 d)];rfl
    ·rw[if_neg d,List.filter_cons_of_neg (by rw[jD];exact d)];rfl
theorem Dn(i:af): ∀(A:List au) (out:List af),kY out→kY (ib i A out)∧ ∀z,z∈ib i A out↔z∈oE A i∨z∈out
 |[],out,h=>⟨h,fun z=>by simp[ib,oE]⟩
 |x::A,out,h=>by
  rw[ib];by_cases a:dh x.over i=true
  ·rw[if_pos a];obtain⟨d,e⟩:=KG out x.id h;obtain⟨b,c⟩:=Dn i A _ d;refine⟨b,fun z=> ?_⟩;rw[c,e];unfold oE;rw[List.filter_cons_of_pos (by simpa using a),bV,bM];constructor
   ·rintro(h|h|h)
    ·exact .inl (.inr h)
    ·exact .inl (.inl h)
    ·exact .inr h
   ·rintro((h|h)|h)
    ·exact .inr (.inl h)
    ·exact .inl h
    ·exact .inr (.inr h)
  ·rw[if_neg a];obtain⟨b,c⟩:=Dn i A _ h;refine⟨b,fun z=> ?_⟩;rw[c];unfold oE;rw[List.filter_cons_of_neg (by simpa using a)]
theorem QW(p:aX): ∀x∈(cT ar p).1,x.over.Nodup:=by
 intro x a;unfold cT at a;by_cases h:(bq ar p).2≠0
 ·rw[if_pos h]at a;cases a
 ·rw[if_neg h]at a;obtain⟨y,_,rfl⟩:=bR.1 a;rw[uT];exact(vc _ [] .nil).1.nodup
theorem oS{s:aD}(h:dD ar s){d:Dg}(a:d∈bs s): ∀(j:Nat) (x:au),(cT ar ((ch s d).getD .zero)).1[j]?=some x→x.id=⟨d,j⟩:=by
 intro j x b;rw[←HK h a]at b;rw[wD _ j x b];obtain⟨y,c,rfl⟩:=bR.1 a;rw[mf h.sorted.nodup y c,ek,(h.id y c).2]
theorem SJ{s:aD}(h:dD ar s){l:List Dg}(c: ∀d∈l,d∈bs s)(m:l.Nodup):((l.flatMap fun d=>(cT ar ((ch s d).getD .zero)).1).map (·.id)).Nodup:=by
 refine List.pairwise_map.2 ?_;rw[List.pairwise_flatMap];refine⟨fun d g=>qE.2 fun i j hi f k e=> ?_,List.Pairwise.imp_of_mem (fun{a b} ha hb hab x hx y hy e=>hab ?_) m⟩
 ·rw[oS h (c d g) i _ (bN hi),oS h (c d g) j _ (bN f)]at e;injection e with _ e2
  omega
 ·obtain⟨i,hi⟩:=fU hx;obtain⟨j,f⟩:=fU hy;rw[oS h (c a ha) i x hi,oS h (c b hb) j y f]at e;injection e
theorem Fk: ∀(L out:List au),List.Sublist (gn L out).reverse (out.reverse++L)
 |[],out=>by rw[gn,bg];exact List.Sublist.refl _
 |x::L,out=>by
  rw[gn];refine(Fk L _).trans ?_;split
  ·rw[wk,bj];exact List.Sublist.refl _
  ·exact List.Sublist.append (List.Sublist.refl _) (List.sublist_cons_self x L)
theorem G0{s:aD}(h:dD ar s)(i:af):ec (kj s).2 i=oE (eM ar s).reverse i:=by
 unfold kj eM;rw[TB h];refine FO _ [] ([],[]) (fun x a=> ?_) (fun j=> ?_) (fun j=>rfl) i
 ·rw[wh,oq]at a;obtain⟨d,_,a⟩:=uh.1 a;exact QW _ x a
 ·constructor
  ·intro b;cases b
  ·rintro⟨y,c,_⟩;cases c
theorem UD{s:aD}(h:dD ar s)(i:af):(ec (kj s).2 i).Nodup:=by
 rw[G0 h];unfold oE eM;have f:=Fk (fQ ar s (dN s)).reverse [];have e:((fQ ar s (dN s)).reverse.map (·.id)).Nodup:=by
  rw[List.map_reverse,oq];obtain⟨a,b⟩:=ry h;exact(List.reverse_perm _).nodup_iff.2 (SJ h (fun d c=>(b d).1 c) a.nodup)
 exact e.sublist ((List.filter_sublist.trans f).map _)
theorem KU{s:aD}(h:dD ar s)(i:af):(ec (kj s).2 i).mergeSort eN=ib i (eM ar s) []:=by
 obtain⟨a,b⟩:=Dn i (eM ar s) [] .nil;refine Hw (OM (UD h i)) a fun z=> ?_;rw[List.mem_mergeSort,b,G0 h];unfold oE;simp
theorem Ft: ∀(l:List au) (i:af),j5 l i=l.find? fun x=>decide (x.id=i)
 |[],_=>rfl
 |x::l,i=>by
  rw[j5,List.find?_cons,Ft l i];by_cases h:x.id=i
  ·rw[if_pos h,decide_eq_true h]
  ·rw[if_neg h,decide_eq_false h]
theorem K9{α β:Type}[DecidableEq α]{g:α→Option β}{k:α}: ∀{l:List α},(∀d∈l,d≠k→g d=none)→l.findSome? g=if k∈l then g k else none
 |[],_=>rfl
 |d::l,h=>by
  have c:=K9 fun x i=>h x (eQ d i);rw[List.findSome?_cons];by_cases a:d=k
  ·subst a;rw[if_pos (by simp)];cases hg:g d with
   |some b=>rfl
   |none=>
    dsimp only;rw[c,hg];simp
  ·rw[h d (by simp) a];dsimp only;rw[c];have:k∈d::l↔k∈l:=by rw[bM];exact⟨fun f=>f.resolve_left fun e=>a e.symm,.inr⟩
   simp only[this]
theorem Fu{s:aD}(h:dD ar s)(i:af):me s i=j5 (fP ar s) i:=by
 unfold me fP;rw[Ft,oq,List.find?_flatMap,K9 (k:=i.p)]
 ·by_cases hi:i.p∈bs s
  ·rw[if_pos hi,←HK h hi];obtain⟨q,f⟩:=Option.ne_none_iff_exists'.1 (fun b=>uU.1 b hi);rw[f];rfl
  ·rw[if_neg hi,uU.2 hi]
 ·intro d a hne;rw[List.find?_eq_none];intro x g;obtain⟨j,c⟩:=fU g;rw[oS h a j x c,decide_eq_true_eq];intro e;exact hne (by rw[←e])
theorem SF{l:List au}{i:af}:(j5 l i).isSome=true↔ ∃x∈l,x.id=i:=by
 rw[Ft,List.find?_isSome];constructor
 ·rintro⟨x,a,h⟩;exact⟨x,a,by simpa using h⟩
 ·rintro⟨x,a,h⟩;exact⟨x,a,by simpa using h⟩
theorem Lj{s:aD}(h:dD ar s)(i:af):ec (kj s).2 i=[]↔(ib i (eM ar s) []).length=0:=by
 rw[←KU h,mP];exact yV.symm
theorem ka{s:aD}(h:dD ar s)(i:af):eE s i=eR ar s i:=by
 unfold eE eR od qf;rw[mJ,jD,er,decide_eq_true_eq,Fu h,SF,Lj h,bR];constructor
 ·rintro⟨⟨x,b,rfl⟩,a⟩;exact⟨x,ug.2 ⟨b,by simpa using a⟩,rfl⟩
 ·rintro⟨x,b,rfl⟩;obtain⟨c,a⟩:=ug.1 b;exact⟨⟨x,c,rfl⟩,by simpa using a⟩
def vf(s:aD)(i:af):List af:=if(me s i).isSome=true then(ec (kj s).2 i).mergeSort eN else[]
theorem KT{s:aD}(h:dD ar s)(i:af):vf s i=rf ar s i:=by
 unfold vf rf;rw[Fu h,KU h];cases j5 (fP ar s) i<;>rfl
theorem uC{s:aD}(h:dD ar s):ff s=fP ar s:=by
 unfold ff fP bs;rw[oq,List.flatMap_map];refine Fz fun x a=> ?_;rw[mf h.sorted.nodup x a,ek,Ir];rw[(h.id x a).2];exact Dz h x a
theorem U2{s:aD}(h:dD ar s):Dr s=od ar s:=by
 unfold Dr oc od qf;rw[uC h];congr 1;refine List.filter_congr fun x _=> ?_;rw[mJ,decide_eq_true_eq,decide_eq_true_eq];exact Lj h x.id
theorem Nc(d:Dg): ∀(l:aD) (k:Nat),∃j,putAt d l k=k+j∧j≤l.length∧(∀x∈l.take j,bS x.id d<0)∧(∀y,l[j]?=some y→ ¬bS y.id d<0)
 |[],k=>⟨0,rfl,bk _,by simp,by simp⟩
 |y::l,k=>by
  unfold putAt;split
  ·rename_i h;obtain⟨j,f,g,c,e⟩:=Nc d l (k+1);refine⟨j+1,by omega,by simp;omega,?_,fun z b=>e z (by simpa using b)⟩;intro x a;rw[jj]at a;rcases bM.1 a with rfl|a
   ·exact h
   ·exact c x a
  ·rename_i h;exact⟨0,rfl,fy _,by simp,fun z b=>by simp at b;subst b;exact h⟩
theorem ZM{s:aD}{x:bT}(o:dQ (bs s))(p:x.id∉bs s):dQ (bs (iK s x)):=by
 obtain⟨j,h,u,l,m⟩:=Nc x.id s 0;rw[aw]at h;unfold iK;rw[h];have f:(s.take j++s.drop j).Pairwise fun a b=>bS a.id b.id<0:=by rw[ji];exact List.pairwise_map.1 o
 obtain⟨q,g,t⟩:=wi.1 f;have n: ∀y∈s.drop j,bS x.id y.id<0:=by
  intro y c;cases d:s.drop j with
  |nil=>rw[d]at c;cases c
  |cons z r=>
   have k:s[j]?=some z:=by
    have:(s.drop j)[0]?=some z:=by rw[d];rfl
    rw[fm]at this;simpa using this
   have i:=zN (m z k) (fun e=>p (by rw[←e];exact fV (bX k)));rw[d]at c g;rcases bM.1 c with rfl|c
   ·exact i
   ·exact n0 i ((gY.1 g).1 y c)
 unfold dQ bs;refine List.pairwise_map.2 (wi.2 ⟨q,gY.2 ⟨n,g⟩,fun a ha b hb=> ?_⟩);rcases bM.1 hb with rfl|hb
 ·exact l a ha
 ·exact t a ha b hb
theorem ZL{s:aD}{x y:bT}:y∈iK s x↔y=x∨y∈s:=by
 refine⟨V9,?_⟩;rintro(rfl|h)
 ·exact a2Y _ _
 ·unfold iK;have:y∈s.take (putAt x.id s 0)++s.drop (putAt x.id s 0):=by rw[ji];exact h
  rcases eJ.1 this with h|h
  ·exact eJ.2 (.inl h)
  ·exact eJ.2 (.inr (eQ _ h))
theorem O5(r:Dg→Nat): ∀l:List Dg,∃B,∀d∈l,r d<B
 |[]=>⟨0,fun _ h=>by cases h⟩
 |d::l=>by
  obtain⟨B,b⟩:=O5 r l;refine⟨B+r d+1,fun e a=> ?_⟩;rcases bM.1 a with rfl|a
  ·omega
  ·have:=b e a;omega
structure gh(s:aD)(p:aX)(t:aD)(d:Dg):Prop where
 v:dD ar s
 w:dD ar t
 id:(bq ar p).1=d
 new:d∉bs s
 mem: ∀y,y∈t↔y=⟨d,p⟩∨y∈s
theorem xf{s:aD}{p:aX}(c:dD ar s)(h:(bP ar s p).2.2=0):gh s p (bP ar s p).1 (bP ar s p).2.1:=by
 obtain⟨q,g,n,A,C,t⟩:=Ij ar h;rw[t];dsimp only;have hm: ∀y,y∈iK s ⟨(bq ar p).1,p⟩↔y=⟨(bq ar p).1,p⟩∨y∈s:=fun y=>ZL;have b: ∀e,e∈bs s→e∈bs (iK s ⟨(bq ar p).1,p⟩):=fun e j=>by
  obtain⟨x,a,rfl⟩:=bR.1 j;exact fV ((hm x).2 (.inr a))
 have k:=ZM (x:=⟨(bq ar p).1,p⟩) c.sorted g;have o: ∀x∈iK s ⟨(bq ar p).1,p⟩,∀d∈cD x.pat,d∈bs (iK s ⟨(bq ar p).1,p⟩):=fun x a d l=>by
  rcases(hm x).1 a with rfl|a
  ·exact b _ (n d l)
  ·exact b _ (c.needs x a d l)
 have m:EH (iK s ⟨(bq ar p).1,p⟩):=by
  obtain⟨r,z⟩:=Si c;obtain⟨B,w⟩:=O5 r (bs s);refine⟨fun e=>if e=(bq ar p).1 then B else r e,fun x a e j=> ?_⟩;rcases(hm x).1 a with rfl|a
  ·have:=n e j;dsimp only;rw[if_pos rfl,if_neg fun f=>g (by rw[←f];exact this)];exact w e this
  ·have u:=c.needs x a e j;have v:x.id∈bs s:=fV a;dsimp only;rw[if_neg fun f=>g (by rw[←f];exact u),if_neg fun f=>g (by rw[←f];exact v)];exact z x a e j
 refine⟨c,⟨fun x a=> ?_,k,o,MN m o k.nodup _ [] (fun i d l=>by simp at l) (by simp)⟩,rfl,g,hm⟩;rcases(hm x).1 a with rfl|a
 ·exact⟨q,rfl⟩
 ·exact c.id x a
theorem QJ{s t:aD}{p:aX}{d:Dg}(h:bP ar s p=(t,d,0)):k9 s p=(t,d,0):=by
 have a:(bP ar s p).2.2=0:=by rw[h]
 rw[kZ.2 a,h]
theorem A9{s t:aD}{p:aX}{d:Dg}(b:dD ar s)(h:bP ar s p=(t,d,0)):gh s p t d:=by
 have a:(bP ar s p).2.2=0:=by rw[h]
 have:=xf b a;rw[h]at this;exact this
theorem Lx:dD ar []:=F8 ar UT
theorem Lq:gh [] lh rj gL:=A9 Lx Lm
theorem Lr:gh rj ri rk gr:=A9 Lq.w Ln
theorem xu:gh rk tB lj nh:=A9 Lr.w Lo
theorem xw:gh lj vj ic G3:=A9 xu.w Lp
theorem UH:eE lj ⟨nh,0⟩=true:=(ka xu.w _).trans UN
theorem UI:eE lj ⟨gr,0⟩=false:=(ka xu.w _).trans UO
theorem UJ:eE lj ⟨gL,1⟩=false:=(ka xu.w _).trans UP
theorem UK:eE ic ⟨gL,1⟩=true:=(ka xw.w _).trans UQ
theorem UL:eE ic ⟨gr,0⟩=false:=(ka xw.w _).trans UR
theorem UM:eE ic ⟨nh,0⟩=true:=(ka xw.w _).trans US
theorem UY:(vf ic ⟨gr,0⟩).length=2:=by rw[KT xw.w];exact UZ
set_option maxRecDepth 100000 in
theorem Lt:vQ lh=true:=by kernel_rfl
set_option maxRecDepth 100000 in
theorem Lu:vQ ri=true:=by kernel_rfl
set_option maxRecDepth 100000 in
theorem Lv:vQ tB=true:=by kernel_rfl
set_option maxRecDepth 100000 in
theorem Lw:vQ vj=true:=by kernel_rfl
theorem Dv{s:aD}(h: ∀x∈s,x∈ic): ∀x∈s,cz x.pat∧du x.pat:=by
 intro x a;have:=h x a;unfold ic at this;simp only[bM,List.not_mem_nil,or_false]at this;rcases this with rfl|rfl|rfl|rfl
 ·exact(rQ Lt).1
 ·exact(rQ Lv).1
 ·exact(rQ Lw).1
 ·exact(rQ Lu).1
end Go.Proofs.Q
