/- Lemmas. -/
import Derived.Test.YtellfinifjmloaaGreatDoorPX3
set_option linter.unusedVariables false
set_option linter.unusedSimpArgs false
namespace Go.Proofs.Q
open Go Go.Bb Go.RowKit Go.Proofs.Lg
open Go.Ab (D RD)
theorem J7: ∀{l:List aC} {own:List au} {j:Nat} {x:au},(dW l own).1[j]?=some x→own[j]?=some x∨ ∃c∈l,∃o,o.length≤j∧gO c o=0∧(x.over=[]∨x.over=c.over)
 |[],own,j,x,h=> .inl h
 |c::l,own,j,x,h=>by
  rw[dW]at h;by_cases b:ft c≠0
  ·rw[if_pos b]at h;simp at h
  ·rw[if_neg b]at h;by_cases a:gO c own≠0
   ·rw[if_pos a]at h;simp at h
   ·rw[if_neg a]at h;rcases J7 h with h3|⟨y,h3,h4⟩
    ·rw[jg]at h3;by_cases d:j<own.length
     ·rw[if_pos d]at h3;exact .inl h3
     ·rw[if_neg d]at h3;exact .inr ⟨c,by simp,own,by omega,by simpa using a,LB c _ x (bX h3)⟩
    ·exact .inr ⟨y,eQ _ h3,h4⟩
theorem DE{a b:Int}(h:bQ a b=0):a=0∧b=0:=by
 unfold bQ at h;by_cases k:a=0
 ·rw[if_neg (by simpa using k)]at h;exact⟨k,h⟩
 ·rw[if_pos k]at h;exact absurd h k
theorem MP{c:aC}{own:List au}: ∀{l:List af},kD c own l=0→ ∀z∈l,allowed z own.length=true
 |[],_,z,b=>by cases b
 |y::l,h,z,b=>by
  rw[kD]at h;by_cases a:jL y own (pf c.kind c.file (j6 own y))=0
  ·rw[if_neg (by simpa using a)]at h;rcases bM.1 b with rfl|b
   ·unfold jL at a;by_cases ha:allowed z own.length=true
    ·exact ha
    ·rw[if_pos (by simpa using ha)]at a;cases a
   ·exact MP h z b
  ·rw[if_pos a]at h;exact absurd h a
theorem MS{p:aX}{j:Nat}{a:au}(h:(cT ar p).1[j]?=some a): ∀o∈a.over,(o.p=(bq ar p).1∧o.n<j)∨o.p∈cD p:=by
 intro o i;unfold cT at h;by_cases f:(bq ar p).2≠0
 ·rw[if_pos f]at h;simp at h
 ·have d:(bq ar p).2=0:=by simpa using f
  rw[if_neg f,dL,dt]at h;obtain⟨y,k,rfl⟩:=h;rw[uT]at i;obtain⟨z,e,rfl⟩:=bR.1 (((vc _ [] .nil).2 o).1 i|>.resolve_right (by simp));obtain⟨_,g⟩:=uP d;obtain⟨_,_,_,l,_⟩:=jy g;rw[l]at k;rcases J7 k with h1|⟨c,hc,own,hl,hr,h1⟩
  ·simp at h1
  ·rcases h1 with h1|h1
   ·rw[h1]at e;cases e
   ·rw[h1]at e;have ha:=MP (DE (DE (DE (DE hr).2).2).2).1 z e;unfold allowed at ha;by_cases b:isZero z.p=true
    ·rw[if_pos b,er,decide_eq_true_eq,decide_eq_true_eq]at ha;refine .inl ?_;unfold whole;rw[if_pos ⟨b,ha.1⟩];exact⟨rfl,by have:=ha.2;show z.n<(j:Int);omega⟩
    ·refine .inr ?_;unfold whole;rw[if_neg fun m=>b m.1];exact Ob (Ky ar d) c hc z (by unfold kJ;simp[e]) (by simpa using b)
def zd(L:List au):Prop:=L.Pairwise (fun y x=>y.id∉x.over)∧ ∀x∈L,x.id∉x.over
theorem Gk{s:aD}(h:dD ar s){d:Dg}(f:d∈bs s){j:Nat}{a:au}(ha:(cT ar ((ch s d).getD .zero)).1[j]?=some a): ∀o∈a.over,(o.p=d∧o.n<j)∨ ∃x∈s,x.id=d∧o.p∈cD x.pat:=by
 obtain⟨x,c,rfl⟩:=bR.1 f;rw[mf h.sorted.nodup x c,ek]at ha;intro o g;rcases MS ha o g with⟨b,e⟩|b
 ·exact .inl ⟨by rw[b,(h.id x c).2],e⟩
 ·exact .inr ⟨x,c,rfl,b⟩
theorem Pa{s:aD}(h:dD ar s):zd (fQ ar s (dN s)).reverse:=by
 obtain⟨r,A⟩:=ry h;have c: ∀d∈dN s,d∈bs s:=fun d g=>(A d).1 g;constructor
 ·rw[List.pairwise_reverse,oq,List.pairwise_flatMap];constructor
  ·intro d g;refine qE.2 fun i j hi p o hm=> ?_;have hb:=oS h (c d g) j _ (bN p);rcases Gk h (c d g) (bN hi) _ hm with⟨_,k⟩|⟨x,f,hxd,k⟩
   ·rw[hb]at k;dsimp only at k;omega
   ·rw[hb]at k;dsimp only at k;rw[←hxd]at k;exact Dz h x f k
  ·refine qE.2 fun i j hi p o a ha b hb hm=> ?_;obtain⟨m,ha⟩:=fU ha;obtain⟨n,hb⟩:=fU hb;have l:=oS h (c _ (List.getElem_mem p)) n b hb;have v:=r.nodup;have hne:(dN s)[i]≠(dN s)[j]:=qE.1 r.nodup i j hi p o
   rcases Gk h (c _ (List.getElem_mem hi)) ha _ hm with⟨k,_⟩|⟨x,f,hxd,k⟩
   ·rw[l]at k;exact hne k.symm
   ·rw[l]at k;dsimp only at k;obtain⟨y,u,w,_,B⟩:=r i _ (bN hi);have z:=xh h.sorted.nodup x f y u (hxd.trans w.symm);subst z;obtain⟨q,t⟩:=fU (B _ k);rw[eY]at t;split at t
    ·rename_i C;have:=r.inj t (bN p);omega
    ·cases t
 ·intro x f hm;rw[wh,oq]at f;obtain⟨d,g,f⟩:=uh.1 f;obtain⟨m,f⟩:=fU f;have e:=oS h (c d g) m x f;rcases Gk h (c d g) f _ hm with⟨_,k⟩|⟨y,u,hyd,k⟩
  ·rw[e]at k;dsimp only at k;omega
  ·rw[e]at k;dsimp only at k;rw[←hyd]at k;exact Dz h y u k
def HZ(E:au→Prop)(x:au):Prop:= ∀y,E y→y.kind=7→x.id∉y.over
theorem JJ: ∀(L out:List au),∀x∈out,x∈gn L out
 |[],out,x,h=>h
 |z::L,out,x,h=>by
  rw[gn];refine JJ L _ x ?_;split
  ·exact eQ _ h
  ·exact h
theorem zP: ∀(L out:List au),zd L→ ∀x,x∈gn L out↔x∈out∨(x∈L∧HZ (· ∈gn L out) x)
 |[],out,_,x=>by simp[gn]
 |z::L,out,hT,x=>by
  obtain⟨h,i⟩:=gY.1 hT.1;have f:zd L:=⟨i,fun y a=>hT.2 y (eQ _ a)⟩
  rw[gn];have d:=zP L (if l9 out z.id=true then z::out else out) f;have c:=JJ L (if l9 out z.id=true then z::out else out);obtain⟨E,g⟩: ∃E,E=gn L (if l9 out z.id=true then z::out else out):=⟨_,rfl⟩
  rw[←g]at d c⊢;clear g;constructor
  ·intro j;rcases(d x).1 j with h3|h3
   ·by_cases b:l9 out z.id=true
    ·rw[if_pos b]at h3;rcases bM.1 h3 with rfl|h3
     ·refine .inr ⟨by simp,fun y a e hm=> ?_⟩;rcases(d y).1 a with h4|h4
      ·rw[if_pos b]at h4;rcases bM.1 h4 with rfl|h4
       ·exact hT.2 _ (by simp) hm
       ·exact(Fx _ _).1 b ⟨y,h4,e,hm⟩
      ·exact h y h4.1 hm
     ·exact .inl h3
    ·rw[if_neg b]at h3;exact .inl h3
   ·exact .inr ⟨eQ _ h3.1,h3.2⟩
  ·rintro(h3|⟨h3,h4⟩)
   ·refine c x ?_;split
    ·exact eQ _ h3
    ·exact h3
   ·rcases bM.1 h3 with rfl|h3
    ·refine c x ?_;rw[if_pos]
     ·simp
     ·refine(Fx _ _).2 ?_;rintro⟨y,a,e,hm⟩;refine h4 y (c y ?_) e hm;split
      ·exact eQ _ a
      ·exact a
    ·exact(d x).2 (.inr ⟨h3,h4⟩)
theorem Sk{L:List au}(f:zd L){P C:au→Prop}(q: ∀x∈L,C x→ ∀y∈L,x.id∈y.over→C y)(r: ∀x∈L,C x→(P x↔ ∀y∈L,P y→y.kind=7→x.id∉y.over)): ∀x∈L,C x→(P x↔x∈gn L []):=by
 have key: ∀(n i:Nat) (x:au),i<n→L[i]?=some x→C x→(P x↔x∈gn L []):=by
  intro n
  induction n with
  |zero=>intro i x hi;omega
  |succ n u=>
   intro i x hi c hc;have a:=bX c;have hb: ∀y∈L,x.id∈y.over→(P y↔y∈gn L []):=by
    intro y b hm;obtain⟨j,g⟩:=fU b;have t:j<i:=by
     apply iy;intro s;by_cases e:i=j
     ·subst e;rw[c]at g;obtain rfl:=aJ g;exact f.2 _ a hm
     ·obtain⟨l,o⟩:=b9.1 c;obtain⟨m,p⟩:=b9.1 g;have:=qE.1 f.1 i j l m a8;rw[o,p]at this;exact this hm
    exact u j y a8 g (q x a hc y b hm)
   rw[r x a hc,zP L [] f x];constructor
   ·intro h;refine .inr ⟨a,fun y b k hm=> ?_⟩;have d:y∈L:=((zP L [] f y).1 b).elim (fun h=>by cases h) (·.1);exact h y d ((hb y d hm).2 b) k hm
   ·rintro(h|⟨_,h⟩)
    ·cases h
    ·intro y b hp k hm;exact h y ((hb y b hm).1 hp) k hm
 intro x c hc;obtain⟨i,hi⟩:=fU c;exact key (i+1) i x a8 hi hc
def dx(s:aD)(x:au):Prop:= ∃y∈s,x∈(cT ar y.pat).1
def Il(s:aD):List au:=fQ ar s (dN s)
theorem LH{s:aD}(h:dD ar s)(x:au):x∈Il s↔dx s x:=by
 unfold Il dx;rw[oq,uh];constructor
 ·rintro⟨d,c,b⟩;obtain⟨y,a,rfl⟩:=bR.1 (((ry h).2 d).1 c);rw[mf h.sorted.nodup y a,ek]at b;exact⟨y,a,b⟩
 ·rintro⟨y,a,b⟩;refine⟨y.id,((ry h).2 _).2 (fV a),?_⟩;rw[mf h.sorted.nodup y a,ek];exact b
theorem vm{s:aD}(h:dD ar s)(x:au):x∈fP ar s↔dx s x:=by
 unfold fP dx;rw[oq,uh];constructor
 ·rintro⟨d,c,b⟩;obtain⟨y,a,rfl⟩:=bR.1 c;rw[mf h.sorted.nodup y a,ek]at b;exact⟨y,a,b⟩
 ·rintro⟨y,a,b⟩;refine⟨y.id,fV a,?_⟩;rw[mf h.sorted.nodup y a,ek];exact b
theorem N1{s:aD}(h:dD ar s){y:bT}(a:y∈s){x:au}(c:x∈(cT ar y.pat).1):x.id.p=y.id:=by
 obtain⟨j,b⟩:=fU c;have:=oS h (fV (f:=bT.id) a) j x (by rw[mf h.sorted.nodup y a,ek];exact b);rw[this]
theorem KA{s:aD}(h:dD ar s){x:au}(a:dx s x):x.id.p∈bs s:=by
 obtain⟨y,b,a⟩:=a;rw[N1 h b a];exact fV b
theorem KB{s:aD}(h:dD ar s){x:au}(b:dx s x){o:af}(e:o∈x.over):o.p∈bs s:=by
 obtain⟨y,c,b⟩:=b;obtain⟨j,d⟩:=fU b;rcases MS d o e with⟨a,_⟩|a
 ·rw[a,(h.id y c).2];exact fV c
 ·exact h.needs y c _ a
theorem gh.at{s t:aD}{p:aX}{d:Dg}(g:gh s p t d)(x:au):dx t x↔dx s x∨x∈(cT ar p).1:=by
 unfold dx;constructor
 ·rintro⟨y,b,a⟩;rcases(g.mem y).1 b with rfl|b
  ·exact .inr a
  ·exact .inl ⟨y,b,a⟩
 ·rintro(⟨y,b,a⟩|a)
  ·exact⟨y,(g.mem y).2 (.inr b),a⟩
  ·exact⟨_,(g.mem _).2 (.inl rfl),a⟩
theorem gh.own{s t:aD}{p:aX}{d:Dg}(g:gh s p t d){x:au}(a:x∈(cT ar p).1):x.id.p=d:=by
 have:=N1 g.w ((g.mem ⟨d,p⟩).2 (.inl rfl)) a;exact this
theorem pa{s:aD}(h:dD ar s)(x:au):x∈eM ar s↔dx s x∧HZ (· ∈eM ar s) x:=by
 unfold eM;have:=zP (fQ ar s (dN s)).reverse [] (Pa h) x;rw[this,wh];rw[show x∈fQ ar s (dN s)↔dx s x from LH h x];simp
theorem uA{s:aD}(h:dD ar s)(i:af):eR ar s i=true↔(∃x,dx s x∧x.id=i)∧ ∀y∈eM ar s,i∉y.over:=by
 have hk: ∀i,(ib i (eM ar s) []).length=0↔ ∀y∈eM ar s,i∉y.over:=by
  intro i;obtain⟨_,a⟩:=Dn i (eM ar s) [] .nil;rw[yV,List.eq_nil_iff_forall_not_mem];constructor
  ·intro e y c hi;refine e y.id ((a _).2 (.inl (bR.2 ⟨y,ug.2 ⟨c,(jD _ _).2 hi⟩,rfl⟩)))
  ·intro e z d;rcases(a z).1 d with d|d
   ·obtain⟨y,c,_⟩:=bR.1 d;obtain⟨c,hi⟩:=ug.1 c;exact e y c ((jD _ _).1 hi)
   ·cases d
 unfold eR od qf;rw[jD,bR];constructor
 ·rintro⟨x,b,rfl⟩;obtain⟨b,a⟩:=ug.1 b;exact⟨⟨x,(vm h x).1 b,rfl⟩,(hk _).1 (by simpa using a)⟩
 ·rintro⟨⟨x,b,rfl⟩,a⟩;exact⟨x,ug.2 ⟨(vm h x).2 b,by simpa using(hk _).2 a⟩,rfl⟩
theorem JK{s u:aD}(f:dD ar s)(j:dD ar u)(c: ∀x,dx s x→dx u x){C:au→Prop}(g: ∀x,dx s x→C x→ ∀y,dx s y→x.id∈y.over→C y)(i: ∀x,dx s x→C x→ ∀y∈eM ar u,¬dx s y→y.kind=7→x.id∉y.over): ∀x,dx s x→C x→(x∈eM ar u↔x∈eM ar s):=by
 intro x a hc;have hm: ∀x,x∈(fQ ar s (dN s)).reverse↔dx s x:=fun x=>by rw[wh];exact LH f x
 refine Sk (L:=(fQ ar s (dN s)).reverse) (Pa f) (P:=(· ∈eM ar u)) (C:=C) (fun x a hc y b=>g x ((hm x).1 a) hc y ((hm y).1 b)) (fun x a hc=> ?_) x ((hm x).2 a) hc;have a:=(hm x).1 a;rw[pa j x];constructor
 ·rintro⟨_,h⟩ y _ b;exact h y b
 ·intro h;refine⟨c x a,fun y b e=> ?_⟩;by_cases d:dx s y
  ·exact h y ((hm y).2 d) b e
  ·exact i x a hc y b d e
theorem Ik{s u:aD}(f:dD ar s)(i:dD ar u)(b: ∀x,dx s x→dx u x){C:au→Prop}(e: ∀x,dx s x→C x→ ∀y,dx s y→x.id∈y.over→C y)(j: ∀x,dx s x→C x→ ∀y∈eM ar u,¬dx s y→y.kind=7→x.id∉y.over){x:au}(d:dx s x)(hc:C x)(hk: ∀y∈eM ar u,¬dx s y→x.id∉y.over):eR ar s x.id=eR ar u x.id:=by
 have g:=JK f i b e j;rw[mJ,uA f,uA i];constructor
 ·rintro⟨_,h⟩;refine⟨⟨x,b x d,rfl⟩,fun y c hm=> ?_⟩;by_cases a:dx s y
  ·exact h y ((g y a (e x d hc y a hm)).1 c) hm
  ·exact hk y c a hm
 ·rintro⟨_,h⟩;refine⟨⟨x,d,rfl⟩,fun y c hm=> ?_⟩;have a:=((pa f y).1 c).1;exact h y ((g y a (e x d hc y a hm)).2 c) hm
theorem TP{s t:aD}{p:aX}{d:Dg}(g:gh s p t d){R:af→Prop}(h: ∀a∈(cT ar p).1,∀o∈a.over,R o)(j: ∀y,dx s y→R y.id→ ∀o∈y.over,R o){x:au}(e:dx s x)(i: ¬R x.id):eR ar s x.id=eR ar t x.id:=by
 have hp: ∀y∈eM ar t,¬dx s y→y∈(cT ar p).1:=fun y b c=>((g.at y).1 ((pa g.w y).1 b).1).resolve_left c;refine Ik g.v g.w (fun x e=>(g.at x).2 (.inl e)) (C:=fun x=> ¬R x.id) (fun x e hc y b hm f=>hc (j y b f _ hm)) (fun x e hc y b c _ hm=>hc (h y (hp y b c) _ hm)) e i fun y b c hm=>i (h y (hp y b c) _ hm)
theorem TQ{s t:aD}{p:aX}{d:Dg}(g:gh s p t d){x:au}(a:x∈(cT ar p).1)(b: ∀y∈(cT ar p).1,x.id∉y.over):eR ar t x.id=true:=by
 rw[uA g.w];refine⟨⟨x,(g.at x).2 (.inr a),rfl⟩,fun y c hm=> ?_⟩;rcases(g.at y).1 ((pa g.w y).1 c).1 with h|h
 ·have:=KB g.v h hm;rw[g.own a]at this;exact g.new this
 ·exact b y h hm
end Go.Proofs.Q
