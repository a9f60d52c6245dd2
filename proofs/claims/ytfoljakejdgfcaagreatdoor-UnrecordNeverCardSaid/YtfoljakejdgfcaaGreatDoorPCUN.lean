/- Part of a proof. -/
import Derived.Test.YtfoljakejdgfcaaGreatDoorPBZ
import Derived.Test.YtfoljakejdgfcaaGreatDoorTie
import Derived.Test.YtfoljakejdgfcaaGreatDoorCards
import Derived.ShutString
import Derived.LaidMore
import Derived.LaidSub
import Derived.Lay
import Derived.SevenTiedAt
import Derived.Stop.Joined
import Derived.Laws.IdiomArrays
import Derived.ChangeOld
import Derived.Below
import Derived.Lib.LaidTab
set_option linter.unusedVariables false
set_option linter.unusedSimpArgs false
namespace Go.Proofs.Q
open Go Go.Bb Go.RowKit Go.Proofs.Lg
open Go.Ab (D RD)
theorem Ef(A B:List af)(x y:af)(o:Nat)(a:o=A.length*139):aV (jZ (A++x::B)) o 139 ((aQ y).map .d)=some (jZ (A++y::B)):=by
 unfold jZ;refine bZ (A:=(A.map aQ).flatten) (B:=aQ x) (C:=(B.map aQ).flatten) (by simp) ?_ (dN x) (dN y) (by simp);rw[a,Go.Ab.flatten_len (sz:=139) _ fun r b=>by obtain⟨x,_,rfl⟩:=cy.1 b;exact dN x,aL]
theorem Ny(l:List af)(b:l.length≤1000):oV 139 l.length (jZ l)=some (.d (.sl 139 (l.map aQ))):=by
 unfold oV;rw[if_pos ⟨NG l,by omega⟩];unfold jZ;rw[LC,eY];have:=xy 139 (l.map aQ) fun r a=>by obtain⟨x,_,rfl⟩:=cy.1 a;exact dN x
 rw[aL]at this;rw[this]
abbrev bl:af:=⟨5,af.zero.file,af.zero.type,af.zero.parent,af.zero.name,af.zero.mode,af.zero.data,af.zero.after,af.zero.before,af.zero.lines,af.zero.over⟩
abbrev aS:af:=⟨5,af.zero.file,af.zero.type,af.zero.parent,af.zero.name,af.zero.mode,af.zero.data,af.zero.after,af.zero.before,[⟨#[120]⟩],af.zero.over⟩
abbrev av:af:=⟨2,af.zero.file,af.zero.type,⟨Dg.zero,-1⟩,⟨#[102]⟩,af.zero.mode,af.zero.data,af.zero.after,af.zero.before,af.zero.lines,af.zero.over⟩
abbrev ah:af:=⟨1,af.zero.file,1,af.zero.parent,af.zero.name,af.zero.mode,af.zero.data,af.zero.after,af.zero.before,af.zero.lines,af.zero.over⟩
abbrev bo:af:=⟨5,⟨dP,0⟩,af.zero.type,af.zero.parent,af.zero.name,af.zero.mode,af.zero.data,⟨dP,2⟩,⟨dP,0⟩,af.zero.lines,af.zero.over⟩
abbrev cf:af:=⟨5,⟨dP,0⟩,af.zero.type,af.zero.parent,af.zero.name,af.zero.mode,af.zero.data,⟨dP,2⟩,⟨dP,0⟩,[⟨#[121]⟩],af.zero.over⟩
set_option maxHeartbeats 4000000 in
set_option maxRecDepth 20000 in
theorem Nb:aE Tryz.prog 11 [] (dB true):=by
 obtain⟨⟨K,n1⟩,Z⟩:=Fg Yk;obtain⟨⟨Y,n2⟩,z2⟩:=Fg Yl;obtain⟨⟨L,Q⟩,zR⟩:=Fg Ym;have i:=Ek [] fa ⟨by simp,by simp⟩ K Z;rw[Ow]at i;have c:=Ek [⟨dP,fa⟩] (jc dP) ⟨by simp,by simpa using K⟩ Y z2;rw[OA]at c;have j:=Ek gN kh ⟨by simp[gN],by intro x a;simp[gN]at a;rcases a with rfl|rfl<;>assumption⟩ L zR;rw[OH]at j
 have G:gK bE gN:=D0 bE OJ;have u: ∀x∈gN,cV x.pat∧e8 x.pat:=by intro x a;simp[gN]at a;rcases a with rfl|rfl<;>constructor<;>assumption
 have O: ∀x∈gN,(bB x.pat).length≤100000:=by intro x a;simp[gN]at a;(rcases a with rfl|rfl);exact Iw;exact Iv
 have h: ∀x∈fj,cV x.pat∧e8 x.pat:=by intro x a;simp[fj]at a;rcases a with rfl|rfl|rfl<;>constructor<;>assumption
 have g: ∀x∈fj,(bB x.pat).length≤1000000:=by intro x a;simp[fj]at a;(rcases a with rfl|rfl|rfl);exact eS Iw a8;exact eS Qn a8;exact eS Iv a8
 have l:=LM G (by simp[gN]) u dP;rw[OE]at l;have m:=LK G (by simp[gN]) u O [dP] (by simp);rw[OD]at m;have k:=YT gN (by simp[gN]) u dP ⟨xZ,⟨#[]⟩,3⟩ (fun p P _=>by
  have g1:bM gN dP=some fa:=by rfl
  rw[g1]at P;obtain rfl:=az P;rw[Ov];exact⟨L,Q⟩)
 rw[OF]at k;have b:=OI;have e:=Ic fj (by simp[fj]) h g b ⟨dQ,0⟩;rw[Ox]at e;have f:=Ic fj (by simp[fj]) h g b ⟨dP,0⟩;rw[OB]at f;have N:=PV xZ 3;simp only[El,eg]at i;simp only[El]at c j;have C:(b8 ⟨dP,fa⟩)=b8 ⟨dP,fa⟩:=rfl;dsimp only at l m k
 obtain⟨A1,o⟩: ∃A,A=[(⟨dP,fa⟩:bU)].map b8:=⟨_,rfl⟩
 obtain⟨M,q⟩: ∃A,A=gN.map b8:=⟨_,rfl⟩
 obtain⟨A3,r⟩: ∃A,A=fj.map b8:=⟨_,rfl⟩
 rw[←o]at i c;rw[←q]at c j l m k;rw[←r]at j e f;have e1:bk fa=[D.sc (.string xY),.sc (.string ⟨#[]⟩),.sc (.int .i64 0),.sl 32 [],.sl 139 (fa.changes.map aQ)]:=rfl;clear K n1 Z Y n2 z2 L Q zR G u O h g b o q r;refine ph (F:=yO) RH (by simp[yO]) ?_;simp only[yO];refine AC.seq (bL ?_)
 refine aw @wj trivial ?_;refine AC.seq (bL ?_);have s:aV ((aQ bl).map .d) 137 1 [.d (.sl 1 [[.sc (.string ⟨#[120]⟩)]])]=some ((aQ aS).map .d):=BI bl [⟨#[120]⟩];have S:aV M4 0 139 ((aQ ah).map .d)=some (jZ [ah,.zero,.zero]):=Ef [] [.zero,.zero] .zero ah 0 rfl
 have T:aV (jZ [ah,.zero,.zero]) 139 139 ((aQ av).map .d)=some (jZ [ah,av,.zero]):=Ef [ah] [.zero] .zero av 139 rfl;have H:aV (jZ [ah,av,.zero]) 278 139 ((aQ aS).map .d)=some (jZ fa.changes):=Ef [ah,av] [] .zero aS 278 rfl;have w:oV 139 3 (jZ fa.changes)=some (.d (.sl 139 (fa.changes.map aQ))):=Ny fa.changes (by decide)
 have U:aV l9 0 1 [.d (.sc (.string ⟨#[97,110,110]⟩))]=some ((bk {b9.zero with author:=xY}).map .d):=rfl;have I:aV ((bk {b9.zero with author:=xY}).map .d) 4 1 [.d (.sl 139 (fa.changes.map aQ))]=some ((bk fa).map .d):=rfl;obtain⟨E1,z⟩: ∃E,E=fa:=⟨_,rfl⟩
 rw[←z]at i H w I;refine aw (ga @s (ga @S (ga @T (ga @H (ga @w (ga @U (ga @I (ga @aM (ga @dN (ga @bc (ga @jm @wj))))))))))) (ga @xj @i) ?_;clear s S T H w U I;refine AC.seq (bL ?_);refine aw (ga @aM (ga @fS (ga @dN (ga @bc @wj)))) trivial ?_;have v:(⟨dP,ar.zero.n⟩:ar)=⟨dP,0⟩:=rfl;rw[v]
 have t:aV ((aQ bo).map .d) 137 1 [.d (.sl 1 [[.sc (.string ⟨#[121]⟩)]])]=some ((aQ cf).map .d):=BI bo [⟨#[121]⟩];have V:aV l9 0 1 [.d (.sc (.string ⟨#[98,111,98]⟩))]=some ((bk {b9.zero with author:=Dc}).map .d):=rfl;have J:aV ((bk {b9.zero with author:=Dc}).map .d) 4 1 [.d (.sl 139 [aQ cf])]=some ((bk (jc dP)).map .d):=rfl
 obtain⟨E2,B⟩: ∃E,E=jc dP:=⟨_,rfl⟩
 rw[←B]at c J;refine AC.seq (bL ?_);refine aw (ga @t (ga @V (ga @J (ga @aM (ga @fS (ga @dN (ga @bc (ga @jm @wj)))))))) @c ?_;clear t V J i c e1 C v;refine AC.frame (fr0:=[(1,.d (.sl 37 M)),(2,.ptr 0 0),(3,.d (dI 0)),(4,.ptr 1 0),(5,.ptr 2 0),(6,.d (dI 0))]) ?_ (lr.sub ⟨rfl,rfl,rfl,rfl,rfl,rfl,trivial⟩);refine AC.seq (bL ?_)
 refine aw (ga @bc @wj) @l ?_;refine AC.seq (bL ?_);refine aw (ga @bc (ga @jm @wj)) @m ?_;refine AC.seq (bL ?_);refine aw (ga @bc (ga @c9 (ga @kq (ga @ew @wj)))) (ga @N @k) ?_;clear l m k N
 refine AC.frame (fr0:=[(1,.d (.sl 37 M)),(3,.d (dI 0)),(4,.ptr 1 0),(5,.ptr 2 0),(6,.d (dI 0)),(8,.d (dI 19)),(9,.d (.sl 37 [])),(10,.d (.sl 32 [aq dQ,aq dP])),(11,.d (dI 0)),(12,.ptr 3 0),(13,.d (dI 0))]) ?_ (lr.sub ⟨rfl,rfl,rfl,rfl,rfl,rfl,rfl,rfl,rfl,rfl,rfl,trivial⟩);obtain⟨y,W,X,ro⟩: ∃y,kh.changes[0]?=some y∧kh.changes.length=1∧y.over.length=5:=⟨_,rfl,rfl,rfl⟩
 obtain⟨R,hR⟩: ∃R,R=kh:=⟨_,rfl⟩
 rw[←hR]at W X j⊢;refine AC.seq (bL ?_)
 repeat' first|refine ak (fun _=> ?_) fun _=> ?_|refine aD ?_|simp only[W,X,ro,Int.reduceBNe,Int.reduceLE,Int.reduceToNat,aL,aU,aY,wj,wy,qg,aC,reduceCtorEq,reduceIte,Nat.reduceAdd,Nat.reduceMul,Nat.reduceEqDiff,Nat.reduceLT,Nat.reduceLeDiff,Nat.reduceSub,ax,aB,ay,au]
 refine AC.seq (bL ?_);refine aw (ga @bc (ga @c9 (ga @jm @wj))) @j ?_;refine bL ?_;have v:(⟨dQ,ar.zero.n⟩:ar)=⟨dQ,0⟩:=rfl;exact bx (ga @v (ga @bc (ga @aM (ga @fS @wj)))) (ga @e @f)
end Go.Proofs.Q
namespace Go.Proofs.Q
open Go Go.Bb Go.Proofs.Lg
open Go.Ab (D)
def cr(s:aP):Prop:= ∃r:Dg→Nat,∀x∈s,∀e∈bB x.pat,r e<r x.id
theorem lp.inj{s:aP}{o:List Dg}(h:lp s o){i j:Nat}{d:Dg}(b:o[i]?=some d)(c:o[j]?=some d):i=j:=by
 have a: ∀i j:Nat,o[i]?=some d→o[j]?=some d→ ¬j<i:=fun i j b c e=>by
  obtain⟨_,_,_,k,_⟩:=h i d b;exact k (bT (i:=j) (by rw[gb,if_pos e,c]))
 have:=a i j b c;have:=a j i c b;omega
theorem gv{H:aZ→Dg}{s:aP}(h:gK H s):cr s:=by
 obtain⟨c,m⟩:=E9 h;refine⟨fun d=>Classical.epsilon fun i=>(iU s)[i]?=some d,fun x g e o=> ?_⟩;have q:(iU s)[Classical.epsilon fun i=>(iU s)[i]?=some x.id]?=some x.id:=Classical.epsilon_spec (p:=fun i=>(iU s)[i]?=some x.id) (jR ((m x.id).2 (j3 (f:=bU.id) g)));obtain⟨y,t,k,u,n⟩:=c _ _ q
 have l:=Dt h.sorted.nodup x g y t k.symm;subst l;obtain⟨j,a⟩:=jR (n e o);rw[gb]at a;split at a
 ·rename_i b;have r:=Classical.epsilon_spec (p:=fun i=>(iU s)[i]?=some e) ⟨j,a⟩;dsimp only;rw[c.inj r a];exact b
 ·cases a
theorem dk{a:List Dg}: ∀{s:aP} {i:Nat} {k:Option (Nat×Dg)},mD a s i k=none→k=none∧ ∀x∈s,x.id∉a→ ∃e∈bB x.pat,e∉a
 |[],i,k,h=>⟨by cases k<;>exact h,by simp⟩
 |x::s,i,k,h=>by
  rw[Qv]at h;obtain⟨b,l⟩:=dk h;split at b
  ·cases b
  ·rename_i p;refine⟨b,fun y c f=> ?_⟩;rcases bY.1 c with rfl|c
   ·apply iK;intro n;apply p;subst b;have g:bN a y.id=false:=by
     cases m:bN a y.id
     ·rfl
     ·exact absurd ((kU _ _).1 m) f
    have j:gj a (bB y.pat)=true:=(qV _ _).2 fun d o=>iK fun q=>n ⟨d,o,q⟩;rw[g,j];rfl
   ·exact l y c f
theorem cP{s:aP}(r:Dg→Nat)(a:List Dg): ∀n:Nat,(∃x∈s,x.id∉a∧r x.id≤n)→ ∃x∈s,x.id∉a∧ ∀y∈s,y.id∉a→r x.id≤r y.id
 |0,⟨x,hx,hn,hr⟩=>⟨x,hx,hn,fun y _ _=>by omega⟩
 |n+1,⟨x,hx,hn,hr⟩=>by
  by_cases h: ∃y∈s,y.id∉a∧r y.id≤n
  ·exact cP r a n h
  ·refine⟨x,hx,hn,fun y d b=> ?_⟩;apply iK;intro c;exact h ⟨y,d,b,by omega⟩
theorem ea{s:aP}(p:cr s)(u: ∀x∈s,∀e∈bB x.pat,e∈bA s)(g:(bA s).Nodup): ∀(f:Nat) (a:List Dg),lp s a→s.length≤a.length+f→s.length≤(qj s f a).length
 |0,a,h,hf=>hf
 |f+1,a,h,hf=>by
  cases j:mD a s 0 none with
  |none=>
   rw[qj,j];dsimp only;have b: ∀d∈bA s,d∈a:=by
    intro d k;obtain⟨x,B,rfl⟩:=cy.1 k;apply iK;intro m;obtain⟨r,A⟩:=p;obtain⟨y,n,o,c⟩:=cP r a (r x.id) ⟨x,B,m,bh _⟩;obtain⟨e,t,l⟩:=(dk j).2 y n o;obtain⟨z,C,rfl⟩:=cy.1 (u y n e t);have i:=A y n _ t;have w:=c z C l;omega
   have i:=tS g b;have w:(bA s).length=s.length:=aL _;omega
  |some q=>
   have i:=(E8 (s:=s) 1 a h).1;have v:qj s 1 a=a++[q.2]:=by rw[qj,j];rfl
   rw[v]at i;rw[qj,j];exact ea p u g f (a++[q.2]) i (by rw[aN,qP];omega)
section
variable (H:aZ→Dg)
theorem cH: ∀(s:aP) (q:Option Dg),(∀x∈s,(dh H x.pat).2=0∧(dh H x.pat).1=x.id)→dA (q.toList++bA s)→pQ H q s=0
 |[],q,_,_=>by cases q<;>rfl
 |x::s,q,h1,h2=>by
  obtain⟨c,d⟩:=h1 x (by simp);rw[pQ,if_neg (by rw[c];simp),if_neg (by rw[d];simp)];have a:dA (bA (x::s)):=by
   cases q with
   |none=>exact h2
   |some q=>exact(mQ.1 (show dA (q::bA (x::s))from h2)).2
  rw[if_neg]
  ·exact cH s (some x.id) (fun y b=>h1 y (jS _ b)) a
  ·cases q with
   |none=>simp
   |some q=>
    have:=(mQ.1 (show dA (q::bA (x::s))from h2)).1 x.id (by simp[bA]);simp;omega
theorem cK{a:List Dg}: ∀{s:aP},(∀x∈s,∀d∈bB x.pat,d∈a)→pV a s=0
 |[],_=>rfl
 |y::s,h=>by
  rw[pV,if_pos ((qV _ _).2 (h y (by simp)))];exact cK fun x b=>h x (jS _ b)
theorem cn{s:aP}: ∀{r:aP},ui H s r=0↔ ∀x∈r,mI H s x.id x.pat.changes=0
 |[]=>by simp[ui]
 |y::r=>by
  rw[ui];constructor
  ·intro h x a;obtain⟨b,c⟩:=Jy h;rcases bY.1 a with rfl|a
   ·exact b
   ·exact cn.1 c x a
  ·intro h;rw[h y (by simp),TU,cn.2 fun x a=>h x (jS _ a)]
theorem cx{s:aP}(h:mZ H s=0):s.length≤400∧ ∀x∈s,mI H s x.id x.pat.changes=0:=by
 unfold mZ at h;split at h
 ·cases h
 rename_i c;obtain⟨d,b⟩:=Jy h;obtain⟨e,a⟩:=Jy b;split at a
 ·cases a
 exact⟨by omega,(cn H).1 a⟩
theorem gk{s:aP}(h:s.length≤400)(b: ∀x∈s,(dh H x.pat).2=0∧(dh H x.pat).1=x.id)(e:dA (bA s))(c: ∀x∈s,∀d∈bB x.pat,d∈bA s)(a:cr s)(f: ∀x∈s,mI H s x.id x.pat.changes=0):mZ H s=0:=by
 have g:s.length≤(iU s).length:=ea a c e.nodup s.length [] (fun i d a=>by simp at a) (by simp);unfold mZ;rw[if_neg a8,cH H s none b e,TU,cK c,TU,if_neg a8,(cn H).2 f]
theorem cg{s t:aP}{x:ar}{f:aJ→Bool}(h:isZero x.p=false→bM s x.p=bM t x.p):qA H s x f=qA H t x f:=by
 unfold qA;cases a:isZero x.p with
 |true=>rfl
 |false=>
  have:qW H s x=qW H t x:=by unfold qW;rw[h a]
  rw[this]
theorem eb{s t:aP}{c:af}{a:Dg}: ∀{l:List ar},(∀y∈l,isZero y.p=false→bM s y.p=bM t y.p)→sk H s c a l=sk H t c a l
 |[],_=>rfl
 |x::l,h=>by
  rw[sk,sk,cg H (h x (by simp)),eb fun y b=>h y (jS _ b)]
theorem eL{s t:aP}{c:af}{a:Dg}(h: ∀y∈lN c,isZero y.p=false→bM s y.p=bM t y.p):pP H s c a=pP H t c a:=by
 unfold lN at h;simp only[bY,forall_eq_or_imp]at h;obtain⟨b,d,e,f,g⟩:=h;unfold pP tG;rw[cg H b,cg H d,cg H e,cg H f,eb H g]
theorem eC{s t:aP}{a:Dg}: ∀{l:List af},(∀c∈l,∀y∈lN c,isZero y.p=false→bM s y.p=bM t y.p)→mI H s a l=mI H t a l
 |[],_=>rfl
 |c::l,h=>by
  rw[mI,mI,eL H (h c (by simp)),eC fun y b=>h y (jS _ b)]
theorem gw{p:b9}(h:(dh H p).2=0):iD p=0:=by
 unfold dh at h;unfold iD;by_cases a:(dK p).2≠0
 ·rw[if_pos a]at h;exact h
 ·exact iK a
theorem jw{p:b9}(h:iD p=0): ∀c∈p.changes,∀y∈lN c,isZero y.p=false→y.p∈bB p:=by
 intro c a y b d;unfold bB;rw[if_neg (by simp[h])];exact((DQ _ _ (uy _ _ dA.nil).1).2 _).2 (.inl ⟨c,a,y,b,d,rfl⟩)
theorem eD{s t:aP}{a:Dg}{p:b9}(e:(dh H p).2=0)(h: ∀d∈bB p,bM s d=bM t d):mI H s a p.changes=mI H t a p.changes:=
 eC H fun c b y f g=>h _ (jw (gw H e) c b y f g)
end
theorem cO{s:aP}{f:Dg→Bool}: ∀{d:Dg},f d=true→bM (s.filter fun x=>f x.id) d=bM s d:=by
 induction s with
 |nil=>intro d _;rfl
 |cons x s c=>
  intro d b;by_cases a:f x.id=true
  ·rw[List.filter_cons_of_pos (by simpa using a),bM,bM,c b]
  ·rw[List.filter_cons_of_neg (by simpa using a),c b,bM,if_neg];intro e;rw[e]at a;exact a b
theorem cB{s:aP}{f:Dg→Bool}{d:Dg}:d∈bA (s.filter fun x=>f x.id)↔d∈bA s∧f d=true:=by
 constructor
 ·intro h;obtain⟨x,a,rfl⟩:=cy.1 h;obtain⟨b,c⟩:=List.mem_filter.1 a;exact⟨j3 (f:=bU.id) b,c⟩
 ·rintro⟨h,e⟩;obtain⟨x,a,rfl⟩:=cy.1 h;exact j3 (f:=bU.id) (List.mem_filter.2 ⟨a,e⟩)
theorem eO{H:aZ→Dg}{s:aP}(h:mZ H s=0)(f:Dg→Bool)(g: ∀x∈s,f x.id=true→ ∀d∈bB x.pat,f d=true):mZ H (s.filter fun x=>f x.id)=0:=by
 have e:=D0 H h;obtain⟨i,j⟩:=cx H h;have b: ∀x∈s.filter (fun x=>f x.id),x∈s∧f x.id=true:=fun x a=>List.mem_filter.1 a;refine gk H (eS (List.length_filter_le _ _) i) (fun x a=>e.id x (b x a).1) ?_ (fun x a d c=>cB.2 ⟨e.needs x (b x a).1 d c,g x (b x a).1 (b x a).2 d c⟩) ?_ (fun x a=> ?_)
 ·exact List.Pairwise.sublist (List.Sublist.map _ List.filter_sublist) e.sorted
 ·obtain⟨r,c⟩:=gv e;exact⟨r,fun x a=>c x (b x a).1⟩
 ·rw[eD H (t:=s) (e.id x (b x a).1).1 fun d c=>cO (g x (b x a).1 (b x a).2 d c)];exact j x (b x a).1
end Go.Proofs.Q
namespace Go.Proofs.Q
open Go Go.Bb Go.Proofs.Lg
open Go.Ab (D)
theorem cT{d:Dg}: ∀{s:aP},(∀x∈s,x.id≠d→d∉bB x.pat)→oP d s=false
 |[],_=>rfl
 |x::s,h=>by
  rw[oP,if_neg,cT fun y b=>h y (jS _ b)];intro a;simp only[eI,decide_eq_true_eq]at a;exact h x (by simp) a.1 ((kU _ _).1 a.2)
theorem dd{d:Dg}: ∀{s:aP},oP d s=false→ ∀x∈s,x.id≠d→d∉bB x.pat
 |[],_,x,a=>by cases a
 |y::s,h,x,a=>by
  rw[oP]at h;split at h
  ·cases h
  ·rename_i c;rcases bY.1 a with rfl|a
   ·intro b e;exact c (by simp[b,(kU _ _).2 e])
   ·exact dd h x a
theorem ib{s:aP}{x:bU}(h: ∀y∈s,y.id≠x.id):(By s x).filter (fun y=> !decide (y.id=x.id))=s:=by
 have b: ∀l:aP,(∀y∈l,y∈s)→l.filter (fun y=> !decide (y.id=x.id))=l:=fun l c=>List.filter_eq_self.2 fun y a=>by simp[h y (c y a)]
 unfold By;rw[List.filter_append,List.filter_cons_of_neg (by simp),b _ (fun y a=>List.mem_of_mem_take a),b _ (fun y a=>List.mem_of_mem_drop a),ll]
theorem cS{s:aP}{x y:bU}(h:y∈By s x):y=x∨y∈s:=by
 unfold By at h;rcases fL.1 h with h|h
 ·exact .inr (List.mem_of_mem_take h)
 ·rcases bY.1 h with h|h
  ·exact .inl h
  ·exact .inr (List.mem_of_mem_drop h)
theorem kc(s:aP)(x:bU):x∈By s x:=by unfold By;simp
theorem eB(s:aP)(x:bU):(By s x).length=s.length+1:=by
 unfold By;rw[aN,aU];have:=congrArg List.length (ll (putAt x.id s 0) s);rw[aN]at this;omega
section
variable (H:aZ→Dg)
theorem cu{s:aP}{p:b9}(h:(uQ H s p).2.2=0):(dh H p).2=0∧(dh H p).1∉bA s∧(∀d∈bB p,d∈bA s)∧mI H s (dh H p).1 p.changes=0∧s.length<400∧uQ H s p=(By s ⟨(dh H p).1,p⟩,(dh H p).1,0):=by
 unfold uQ at h⊢;split at h
 ·rename_i a;exact absurd h a
 rename_i a;cases c:bM s (dh H p).1 with
 |some q=>
  rw[c]at h;dsimp only at h;split at h<;>cases h
 |none=>
  rw[c]at h;dsimp only at h;split at h
  ·cases h
  rename_i e;split at h
  ·rename_i b;exact absurd h b
  rename_i b;split at h
  ·cases h
  rename_i f;refine⟨by simpa using a,Dm.1 c,(qV _ _).1 (by simpa using e),by simpa using b,by omega,?_⟩;rw[if_neg a];dsimp only;rw[if_neg e,if_neg b,if_neg f]
theorem hC{s:aP}{p:b9}(k:mZ H s=0)(h:(uQ H s p).2.2=0):we (uQ H s p).1 (uQ H s p).2.1=(s,0):=by
 obtain⟨m,d,n,o,q,g⟩:=cu H h;have l:=D0 H k;rw[g];dsimp only;have b: ∀y∈s,y.id≠(dh H p).1:=fun y a e=>d (by rw[←e];exact j3 (f:=bU.id) a);unfold we;rw[if_neg,if_neg,ib (x:=⟨(dh H p).1,p⟩) b]
 ·rw[cT]
  ·simp
  ·intro y a c j;rcases cS a with rfl|a
   ·exact c rfl
   ·exact d (l.needs y a _ j)
 ·rw[Dm];intro i;exact i (j3 (f:=bU.id) (kc s ⟨(dh H p).1,p⟩))
theorem ei{d:Dg}: ∀(a b:aP) (k:Nat),(∀y∈a,cQ y.id d<0)→(∀y∈b,¬cQ y.id d<0)→putAt d (a++b) k=k+a.length
 |[],[],k,_,_=>rfl
 |[],y::b,k,_,h=>by
  show putAt d (y::b) k=k;rw[putAt,if_neg (h y (by simp))]
 |x::a,b,k,h1,h2=>by
  rw[ma,putAt,if_pos (h1 x (by simp)),ei a b (k+1) (fun y c=>h1 y (jS _ c)) h2,aU];omega
theorem eA{s:aP}{x:bU}(j:dA (bA s))(k:x∈s):By (s.filter fun y=> !decide (y.id=x.id)) x=s:=by
 obtain⟨a,b,rfl⟩:=List.append_of_mem k;have i:dA (bA a++x.id::bA b):=by simpa[bA]using j
 obtain⟨n,l,m⟩:=List.pairwise_append.1 i;have d: ∀y∈a,cQ y.id x.id<0:=fun y c=>m _ (j3 (f:=bU.id) c) _ (by simp);have g: ∀y∈b,cQ x.id y.id<0:=fun y c=>(mQ.1 l).1 _ (j3 (f:=bU.id) c);have fa_:a.filter (fun y=> !decide (y.id=x.id))=a:=List.filter_eq_self.2 fun y c=>by
  have:y.id≠x.id:=fun e=>by have:=d y c;rw[e]at this;exact tF _ this
  simp[this]
 have fb_:b.filter (fun y=> !decide (y.id=x.id))=b:=List.filter_eq_self.2 fun y c=>by
  have:y.id≠x.id:=fun e=>by have:=g y c;rw[e]at this;exact tF _ this
  simp[this]
 rw[List.filter_append,List.filter_cons_of_neg (by simp),fa_,fb_];unfold By;rw[ei a b 0 d fun y c h=>tF _ (oA (g y c) h),au,List.take_left,List.drop_left]
theorem hM{s:aP}{x:bU}(q:mZ H s=0)(g:x∈s):((lO s x.id).2≠0→(lO s x.id).2=19)∧((lO s x.id).2=0→mZ H (lO s x.id).1=0∧uQ H (lO s x.id).1 x.pat=(s,x.id,0)∧ ∀y∈(lO s x.id).1,y∈s):=by
 have i:=D0 H q;have c:=Qs i;obtain⟨B,A⟩:=cx H q;have v:bM s x.id≠none:=by rw[Ne,Dm];intro h;exact h (j3 (f:=bU.id) g)
 rw[←XH i];by_cases n:oP x.id s=true
 ·have e:we s x.id=([],19):=by unfold we;rw[if_neg v,if_pos n]
  rw[e];exact⟨fun _=>rfl,fun h=>by cases h⟩
 ·have e:we s x.id=(s.filter (fun y=> !decide (y.id=x.id)),0):=by unfold we;rw[if_neg v,if_neg n]
  rw[e];dsimp only;have o:=dd (by simpa using n);refine⟨fun h=>absurd rfl h,fun _=>⟨eO q (fun d=> !decide (d=x.id)) fun y r l d a=> ?_,?_,fun y r=>(List.mem_filter.1 r).1⟩⟩
  ·have u:y.id≠x.id:=by simpa using l
   have:d≠x.id:=fun e=>o y r u (by rw[←e];exact a);simp[this]
  ·obtain⟨k,m⟩:=i.id x g;have l: ∀d∈bB x.pat,(fun d=> !decide (d=x.id)) d=true:=fun d a=>by
    have:d≠x.id:=fun e=>c x g (by rw[←e];exact a);simp[this]
   have b:bM (s.filter fun y=> !decide (y.id=x.id)) x.id=none:=by
    rw[Dm];intro h;have:=(cB (f:=fun d=> !decide (d=x.id))).1 h;simp at this
   have j:gj (bA (s.filter fun y=> !decide (y.id=x.id))) (bB x.pat)=true:=(qV _ _).2 fun d a=>(cB (f:=fun d=> !decide (d=x.id))).2 ⟨i.needs x g d a,l d a⟩;have p:mI H (s.filter fun y=> !decide (y.id=x.id)) x.id x.pat.changes=0:=by
    rw[eD H (t:=s) k fun d a=>cO (f:=fun d=> !decide (d=x.id)) (l d a)];exact A x g
   have w:(s.filter fun y=> !decide (y.id=x.id)).length<400:=by
    have z:=eB (s.filter fun y=> !decide (y.id=x.id)) x;rw[eA i.sorted g]at z;omega
   unfold uQ;rw[if_neg (by rw[k];simp),m,b];dsimp only;rw[if_neg (by rw[j];simp),if_neg (by rw[p];simp),if_neg a8,eA i.sorted g]
end
end Go.Proofs.Q
namespace Go.Proofs.Q
open Go Go.Ab Go.Bb
def cm:CF:=⟨104, (.seq (fo [ox 4 1,o0 6 (.mov xF)]) (.seq (.seq (fo [om 18 0,o6 19 10 [.t 18],o0 20 (.not (.t 19)),om 21 20,og 22 21 false (.ld (some 5) (.t 4)),og 23 21 false (.call (.fn 18) [.t 22]),o0 24 (.pick (.t 21) xT (.t 23))]) (.cond (.t 24) (.seq (fo [o6 25 11 [],om 6 25]) .ret) .skip)) (.seq (.seq (fo [om 27 0,o2 28 5 4,o6 29 19 [.t 27,.t 28],om 26 29,oe 30 26 0,oe 31 26 1,oe 32 26 2,o0 8 (.box (.c (.agg cN))),om 7 30,o8 32 8 31,om 9 32]) (.seq (fo [om 33 9,o5 34 .eql 33 0]) (.cond (.t 34) (.seq (fo [om 36 7,o2 37 32 8,o6 38 12 [.t 36,.t 37],om 35 38,oe 39 35 0,oe 40 35 1,om 10 39,om 11 40]) (.seq (fo [om 41 11,o5 42 .neq 41 0,om 43 42,oh 44 43 false 10,oh 45 43 false 0,og 46 43 false (.call (.fn 16) [.t 44,.t 45]),og 47 43 false (.not (.t 46)),o0 48 (.pick (.t 43) xT (.t 47))]) (.cond (.t 48) (.seq (fo [o0 6 (.mov xF)]) .ret) .skip))) .skip))) (.seq (.seq (fo [om 49 0,o9 50 0 49,o5 51 .eql 50 0]) (.cond (.t 51) (.seq (fo [o6 52 11 [],om 6 52]) .ret) .skip)) (.seq (fo [om 53 0,om 54 2,o0 55 (.cnv .i64 (.t 54)),om 56 0,o9 57 0 56,o4 58 .rem 55 57,oi 59 37 53 58,o2 60 37 59,o0 12 (.box (.c (.agg lV))),o8 37 12 60]) (.seq (fo [om 62 0,o1 63 0 12,o2 64 32 63,o6 65 12 [.t 62,.t 64],om 61 65,oe 66 61 0,oe 67 61 1,om 13 66,om 14 67]) (.seq (.seq (fo [om 68 14,o5 69 .neq 68 0]) (.cond (.t 69) (.seq (fo [om 70 14,o5 71 .eql 70 19,om 72 71,og 73 72 true (.call (.fn 11) []),o0 74 (.pick (.t 72) (.t 73) xF),om 6 74]) .ret) .skip))
 (.seq (fo [om 76 13,o1 77 32 12,o2 78 5 77,o6 79 19 [.t 76,.t 78],om 75 79,oe 80 75 0,oe 81 75 1,oe 82 75 2,o0 16 (.box (.c (.agg cN))),om 15 80,o8 32 16 81,om 17 82]) (.seq (fo [om 83 13,o6 84 20 [.t 83],o5 85 .eql 84 0,om 86 85,oh 87 86 true 17,og 88 86 true (.bin .eql (.t 87) (xi 0)),o0 89 (.pick (.t 86) (.t 88) xF),om 90 89,og 91 90 true (.ld (some 32) (.t 16)),og 92 90 true (.fad 0 (.t 12)),og 93 90 true (.ld (some 32) (.t 92)),og 94 90 true (.eqa true dD false (.t 91) (.t 93)),o0 95 (.pick (.t 90) (.t 94) xF),om 96 95,oh 97 96 true 15,oh 98 96 true 0,og 99 96 true (.call (.fn 16) [.t 97,.t 98]),o0 100 (.pick (.t 96) (.t 99) xF),om 101 100,og 102 101 true (.call (.fn 11) []),o0 103 (.pick (.t 101) (.t 102) xF),om 6 103]) .ret))))))))),[.tmp 6]⟩
theorem hY:aG Tryz.prog [100004] 4=some cm.erase:=by kernel_rfl
end Go.Proofs.Q
namespace Go.Proofs.Q
open Go Go.Bb Go.RowKit Go.Proofs.Lg
open Go.Ab (D RD)
set_option maxHeartbeats 1000000 in
set_option maxRecDepth 20000 in
theorem h8(f:aE Tryz.prog 11 [] (dB true))(s:aP)(p:b9)(n:Nat)(hn:n<256)(L: ∀x∈s,x.pat.changes.length≤9223372036854775807)(u:p.changes.length≤9223372036854775807)(m:my s=false→iC s∧ ∀x∈s,pn x.pat.changes)
  (E:kT p=false→cV p∧pn p.changes)
  (z:oH bE s=true→kT p=false→(uQ bE s p).2.2=0→aE Tryz.prog 12 [.sl 37 ((uQ bE s p).1.map b8),.agg (aq (uQ bE s p).2.1)] (.tup [.sl 37 (s.map b8),dI 0]))
  (B:oH bE s=true→ ∀x∈s,aE Tryz.prog 12 [.sl 37 (s.map b8),.agg (aq x.id)] (.tup [.sl 37 ((lO s x.id).1.map b8),dI (lO s x.id).2])):
  aE Tryz.prog 4 [.sl 37 (s.map b8),.agg (bk p),.sc (.int .u8 n)] (dB true):=by
 have k:=Vh s L m;have v:=V2 p u;refine ph (F:=cm) hY (by simp[cm]) ?_;simp only[cm];refine AC.cut [0,2,4] [(0,.d (.sl 37 (s.map b8))),(2,.d (.sc (.int .u8 n))),(4,.d (.ref (bk p)))] [] True ?_ fun J _=> ?_
 ·repeat' first|refine ak (fun _=> ?_) fun _=> ?_|refine aD ?_|simp only[decide_true,wy,qg,aC,reduceCtorEq,reduceIte,Nat.reduceAdd,Nat.reduceMul,Nat.reduceEqDiff,Nat.reduceLT,Nat.reduceLeDiff,Nat.reduceSub,ax,aB,ay,au]
  all_goals exact⟨_,rfl⟩
 refine AC.cut [0,2,4] [(0,.d (.sl 37 (s.map b8))),(2,.d (.sc (.int .u8 n))),(4,.d (.ref (bk p)))] [] (oH bE s=true∧kT p=false) ?_ fun J h1=> ?_
 ·cases D:oH bE s
  ·rw[D]at k
   repeat' first|refine ak (fun _=> ?_) fun _=> ?_|refine aD ?_|refine aj.data (k) rfl ?_|refine aj.data (f) rfl ?_|simp only[wj,wy,qg,aC,reduceCtorEq,reduceIte,Nat.reduceAdd,Nat.reduceMul,Nat.reduceEqDiff,Nat.reduceLT,Nat.reduceLeDiff,Nat.reduceSub,ax,aB,ay,au]
   all_goals first|rfl|trace_state
  ·rw[D]at k;cases I:kT p
   ·rw[I]at v
    repeat' first|refine ak (fun _=> ?_) fun _=> ?_|refine aD ?_|refine aj.data (k) rfl ?_|refine aj.data (v) rfl ?_|simp only[wj,wy,qg,aC,reduceCtorEq,reduceIte,Nat.reduceAdd,Nat.reduceMul,Nat.reduceEqDiff,Nat.reduceLT,Nat.reduceLeDiff,Nat.reduceSub,ax,aB,ay,au]
    all_goals first|exact⟨⟨_,rfl⟩,rfl,rfl⟩|exact⟨_,rfl⟩|trace_state
   ·rw[I]at v
    repeat' first|refine ak (fun _=> ?_) fun _=> ?_|refine aD ?_|refine aj.data (k) rfl ?_|refine aj.data (v) rfl ?_|refine aj.data (f) rfl ?_|simp only[wj,wy,qg,aC,reduceCtorEq,reduceIte,Nat.reduceAdd,Nat.reduceMul,Nat.reduceEqDiff,Nat.reduceLT,Nat.reduceLeDiff,Nat.reduceSub,ax,aB,ay,au]
    all_goals first|rfl|trace_state
 obtain⟨D,I⟩:=h1;have t:=D;unfold oH at t;simp only[eI,uD,decide_eq_true_eq]at t;obtain⟨O,j⟩:=t;obtain⟨o,C⟩:=m O;obtain⟨g,h⟩:=E I;have a:=Kb s s L;rw[decide_eq_true rfl]at a;have c:=B D;refine AC.cut [0,2] [(0,.d (.sl 37 (s.map b8))),(2,.d (.sc (.int .u8 n)))] [] True ?_ fun J _=> ?_
 ·have w:=Ek s p o g h;unfold El at w;by_cases b:(uQ bE s p).2.2=0
  ·have U:=z D I b;rw[b]at w;obtain⟨A,e⟩: ∃A,A=uQ bE s p:=⟨_,rfl⟩
   rw[←e]at w U;clear z e b g h o C c B m E
   repeat' first|refine ak (fun _=> ?_) fun _=> ?_|refine aD ?_|refine aj.data (w) rfl ?_|refine aj.data (U) rfl ?_|refine aj.data (a) rfl ?_|simp only[beq_self_eq_true,bne_self_eq_false,eV,bc,c9,aL,wj,wy,qg,aC,reduceCtorEq,reduceIte,Nat.reduceAdd,Nat.reduceMul,Nat.reduceEqDiff,Nat.reduceLT,Nat.reduceLeDiff,Nat.reduceSub,ax,aB,ay,au]
   all_goals first|exact⟨_,rfl⟩|trace_state
  ·have l:((uQ bE s p).2.2==0)=false:=by simpa using b
   obtain⟨A,e⟩: ∃A,A=uQ bE s p:=⟨_,rfl⟩
   rw[←e]at w l;clear z e b g h o C c B m E
   repeat' first|refine ak (fun _=> ?_) fun _=> ?_|refine aD ?_|refine aj.data (w) rfl ?_|simp only[l,eV,bc,c9,aL,wj,wy,qg,aC,reduceCtorEq,reduceIte,Nat.reduceAdd,Nat.reduceMul,Nat.reduceEqDiff,Nat.reduceLT,Nat.reduceLeDiff,Nat.reduceSub,ax,aB,ay,au]
   all_goals first|exact⟨_,rfl⟩|trace_state
 refine bL ?_;by_cases hl:s.length=0
 ·have l:((s.length:Int)==0)=true:=by simp[hl]
  clear z c B m E
  repeat' first|refine ak (fun _=> ?_) fun _=> ?_|refine aD ?_|refine aj.data (f) rfl ?_|simp only[l,wj,wy,qg,aC,reduceCtorEq,reduceIte,Nat.reduceAdd,Nat.reduceMul,Nat.reduceEqDiff,Nat.reduceLT,Nat.reduceLeDiff,Nat.reduceSub,ax,aB,ay,au]
  all_goals first|rfl|trace_state
 have P:n % s.length<s.length:=Nat.mod_lt _ a8;obtain⟨x,Q⟩: ∃x,s[n % s.length]?=some x:=⟨_,bV P⟩
 have i:x∈s:=bT Q;have H:=c x i;obtain⟨M,K⟩:=hM bE j i;have a0:s.length≤400:=(cx bE j).1;have l:((s.length:Int)==0)=false:=by rw[beq_eq_false_iff_ne];omega
 have V:IntKind.i64.wrap (n:Int)=(n:Int):=ck rfl a8;have W:(n:Int).tmod (s.length:Int)=((n % s.length:Nat):Int):=rfl;have X:(if(s.length:Int)≠0 then some (Value.int IntKind.i64 ((n % s.length:Nat):Int))else none)=some (Value.int IntKind.i64 ((n % s.length:Nat):Int)):=if_pos a8;have r:(lO s x.id).2=0→(lO s x.id).1.length≤1000:=fun b=>by
  have h6:=(cu bE (s:=(lO s x.id).1) (p:=x.pat) (by rw[(K b).2.1])).2.2.2.2.1;omega
 by_cases b:(lO s x.id).2=0
 ·obtain⟨Z,k2,S⟩:=K b;have q:iC (lO s x.id).1:=⟨by have:=r b;omega,fun y R=>o.pat y (S y R)⟩
  have G:=Ek (lO s x.id).1 x.pat q (o.pat x i) (C x i);rw[k2]at G;unfold El at G;dsimp only at G;have N:=Vf (lO s x.id).1 q fun y R=>C y (S y R);rw[Z]at N;rw[b]at H;obtain⟨T,Y⟩: ∃T,T=(lO s x.id).1:=⟨_,rfl⟩
  rw[←Y]at G N H;clear z c B m E Y Z k2 S M K b o C g h L u k v r q
  repeat' first|refine ak (fun _=> ?_) fun _=> ?_|refine aD ?_|refine aj.data (H) rfl ?_|refine aj.data (G) rfl ?_|refine aj.data (N) rfl ?_|refine aj.data (a) rfl ?_|refine aj.data (f) rfl ?_|simp only[l,V,W,X,Q,beq_self_eq_true,bne_self_eq_false,FF,iw,eV,bc,aL,wj,wy,qg,aC,reduceCtorEq,reduceIte,Nat.reduceAdd,Nat.reduceMul,Nat.reduceEqDiff,Nat.reduceLT,Nat.reduceLeDiff,Nat.reduceSub,ax,aB,ay,au]
  all_goals first|rfl|trace_state
 ·have e4:=M b;rw[e4]at H;clear z c B m E r M K b o C g h L u k v
  repeat' first|refine ak (fun _=> ?_) fun _=> ?_|refine aD ?_|refine aj.data (H) rfl ?_|refine aj.data (f) rfl ?_|simp only[l,V,W,X,Q,Int.reduceBNe,Int.reduceBEq,FF,iw,eV,bc,aL,wj,wy,qg,aC,reduceCtorEq,reduceIte,Nat.reduceAdd,Nat.reduceMul,Nat.reduceEqDiff,Nat.reduceLT,Nat.reduceLeDiff,Nat.reduceSub,ax,aB,ay,au]
  all_goals first|rfl|trace_state
end Go.Proofs.Q
namespace Go.Proofs.Q
open Go Go.RowKit Go.Bb Go.Proofs.Lg
open Go.Ab (RD D)
theorem hU(s:aP)(h:sW s)(p:b9)(f:oq p)(n:Nat)(o:n<256):aE Tryz.prog 4 [.sl 37 (s.map b8),.agg (bk p),.sc (.int .u8 n)] (dB true):=by
 refine h8 Nb s p n o (fun x g=>eS (h.pat x g).changes tQ) (eS f.changes tQ) (FT h) (fun d=>⟨Cx f d,FM f⟩) (fun a d l=> ?_) fun a x g=> ?_
 ·obtain⟨_,m,j⟩:=P0 h a;have b:mZ bE s=0:=by unfold oH at a;simp at a;exact a.2
  have e:=hC bE b l;have k:=(cu bE l).2.2.2.2.2;have c:=YS (uQ bE s p).1 (by rw[k];dsimp only;rw[eB];omega) (fun y i=>by
   rw[k]at i;rcases cS i with rfl|i
   ·exact⟨Cx f d,FP d⟩
   ·exact(j y i).1) (uQ bE s p).2.1
  rw[e]at c;exact c
 ·obtain⟨_,m,j⟩:=P0 h a;have q:gK bE s:=D0 bE (by unfold oH at a;simp at a;exact a.2);exact LM q a8 (fun x g=>(j x g).1) x.id
theorem unrecordNever_walk{W:World}(l:GW W.heap.size W){c f:Value}{s:aP}(h:sW s){p:b9}(u:oq p){n:Int}(t:0≤n∧n<256)(j:RD (Go.Bb.cellsIn W) W c (.sl 37 (s.map b8)))(k:RD (Go.Bb.cellsIn W) W f (.agg (bk p))):
  Calls Tryz.prog 4 #[c,f,.int .u8 n] W fun e g=>e= .returned (.bool true)∧Below W.heap.size W g:=by
 obtain⟨m,rfl⟩:=Int.eq_ofNat_of_zero_le t.1;refine((hU s h p u m a8).calls (Go.Bb.cellsIn W) W [c,f,.int .u8 m] rfl (fun i v d a b=> ?_) l).mono fun e x r=> ?_
 ·match i with
  |0=>simp at a b;subst a;subst b;exact j
  |1=>simp at a b;subst a;subst b;exact k
  |2=>simp at a b;subst a;subst b;exact .sc _
  |i+3=>simp at a
 ·obtain⟨v,q,w,o⟩:=r;have:v= .bool true:=by cases w;rfl
  subst this;exact⟨q,o⟩
end Go.Proofs.Q
namespace Go.Proofs.YtfoljakejdgfcaaGreatDoor
open Go.ChangeShapes Go.WideShapes Go.ChangeAt Go.RowKit Go.Proofs.Lg Go.Bb
open Go.Proofs.Q (Fb La L9 Ua YO unrecordNever_walk b8 bk)
theorem own:ownKnob Tryz.prog.godebug=none:=by kernel_rfl
theorem laidOut:laidOutB Tryz.prog=true:=by kernel_rfl
theorem Pp{l:List (String×DataW Unit)}{w:World}(i:l=Rows.unrecordNeverRow.laid)(h:laidMetH Tryz.prog l w):GW w.heap.size w:=by
 have b:=h.filter fun x=>x.1== "internal/strconv.uint64pow10";rw[i]at b;have f:laidMet Tryz.prog [("internal/strconv.uint64pow10",Lib.tabData .u64 vN)] w:=by
  rw[MakeChecks.laidMetH_plain _ _ _ (by kernel_rfl)]at b;exact b
 have a:Lib.TabIs Tryz.prog w "internal/strconv.uint64pow10" .u64 vN:=Lib.tabIs_of_head (g:=1) (by kernel_rfl) (by kernel_rfl) Tryz.underlying305 Tryz.underlying207 (by kernel_rfl) (by kernel_rfl) f;intro p d;simp only[Dp,pw]at d;subst d;unfold Lib.TabIs World.var? at a
 rw[show Tryz.prog.globalNamed "internal/strconv.uint64pow10"=some 1 by kernel_rfl,dF]at a;dsimp only;split at a
 ·rename_i j t e c;obtain rfl:=az a;exact⟨(fK.1 c).1,t,e,c⟩
 ·cases a
set_option maxRecDepth 100000 in
theorem unrecordNever_lifted(os:Os)(started:os.Started)(H:Type)(enc:TypeId×Value→H):
  ReturnsInHanded {} Tryz.checked os 4 .any (fun w a=>(Rows.unrecordNeverSpec.pre enc Tryz.prog Tryz.f4 Rows.unrecordNeverRow.domain false w a∧laidMetH Tryz.prog Rows.unrecordNeverRow.laid w)∧sizedMet enc Tryz.prog Tryz.f4 (OpenSpec.ofChange Rows.unrecordNeverSpec) false w a)
   (Rows.unrecordNeverSpec.post enc Tryz.prog Tryz.f4 false true false false):=by
 refine returnsInHanded_of_change_and (C:=Tryz.checked) (X:=fun w _=>laidMetH Tryz.prog Rows.unrecordNeverRow.laid w) (fun _ _ _ Y h=>h.of_heap Y) own started (by kernel_rfl) Tryz.func4
  (ChangeSpec.witness_shaped (enc:=enc) (C:=Tryz.checked) (os:=os) (X:=fun w _=>laidMetH Tryz.prog Rows.unrecordNeverRow.laid w) false (World.laidAll Tryz.prog os Rows.unrecordNeverRow.laid) #[.slice none 0 0,.agg #[.string ⟨#[]⟩,.string ⟨#[]⟩,.int .i64 0,.slice none 0 0,.slice none 0 0],.int .u8 0] 8 (World.laidAll_os _ _ _)
   (World.shaped_of_ZipB (by kernel_rfl) (by kernel_rfl)) (by kernel_rfl) (by kernel_rfl) (by kernel_rfl)
   (by rw[MakeChecks.laidMetH_plain _ _ _ (by kernel_rfl)];exact laidMet_laidAll _ (by kernel_rfl) (by kernel_rfl))) ?_
 intro W f a N gs before c F hc _ T _;have b: ∀(j:Nat) t v,Tryz.f4.params[j]?=some t→a[j]?=some v→Value.okWide Tryz.prog W .any f t v:=c;have r:=F;obtain⟨p,q,g,U,rfl,_,_⟩:=F;have E:DataW.TrodAll enc Tryz.prog W 0 (fun _=>true) true Tryz.f4.params.toList a.toList N p:=g;rw[Tryz.params4]at E b
 obtain⟨K,a0,d0,O,p0,q0,k,rfl,rfl,A,r0⟩:=trodAll_cons E;obtain⟨L,a1,d1,P,p1,q1,l,rfl,rfl,B,r1⟩:=trodAll_cons r0;obtain⟨M,a2,d2,Q,p2,q2,o,rfl,rfl,D,r2⟩:=trodAll_cons r1;obtain⟨rfl,rfl,rfl⟩:=trodAll_nil r2;obtain rfl:a= #[K,L,M]:=by cases a;simp_all
 obtain⟨rfl,rfl⟩:=trodVars_none U;have G:=A;have I:=B;have J:=D;have u: ∀x∈p0,x.block<W.heap.size:=by obtain⟨m,i⟩:=G;exact DataW.trod_lt m _ _ _ i
 have y: ∀x∈p1,x.block<W.heap.size:=by obtain⟨m,i⟩:=I;exact DataW.trod_lt m _ _ _ i
 have z: ∀x∈p2,x.block<W.heap.size:=by obtain⟨m,i⟩:=J;exact DataW.trod_lt m _ _ _ i
 obtain⟨x0,R,o0⟩:=KC (n:=12) (sh:=Fb) Tryz.underlying23 (by kernel_rfl) (b 0 23 K rfl rfl) A;obtain⟨s,rfl,hs⟩:=L9 o0;obtain⟨x1,S,o1⟩:=Xv (n:=12) (shs:=La) (.inl ⟨_,Tryz.underlying39⟩) (by kernel_rfl) (b 1 39 L rfl rfl) B;obtain⟨p,rfl,Z⟩:=Ua o1;obtain⟨n,rfl,n1,n2,n3⟩:=open_int Tryz.underlying5 (b 2 5 M rfl rfl) D;clear g c
 refine(unrecordNever_walk (Pp rfl T) hs Z (YO n3) R S).mono fun e W' ⟨V,d⟩=> ?_;subst V
 exact⟨_,rfl,_,_,_,[],_,[],r,trodAll_mk1 (shut_bool Tryz.underlying4 _),(trodAll_cons_mk (Below.trod laidOut (by kernel_rfl) (of_decide_eq_true (by kernel_rfl)) G d u) (trodAll_cons_mk (Below.trod laidOut (by kernel_rfl) (of_decide_eq_true (by kernel_rfl)) I d y) (trodAll_cons_mk (Below.trod laidOut (by kernel_rfl) (of_decide_eq_true (by kernel_rfl)) J d z) trodAll_mk0))),rfl,d.frame _,fun h=>by cases h⟩
end Go.Proofs.YtfoljakejdgfcaaGreatDoor
