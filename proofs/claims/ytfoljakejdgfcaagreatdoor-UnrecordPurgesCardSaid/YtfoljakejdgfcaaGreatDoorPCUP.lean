/- Part of a proof. -/
import Derived.Test.YtfoljakejdgfcaaGreatDoorPBZ
import Derived.Test.YtfoljakejdgfcaaGreatDoorTie
import Derived.Test.YtfoljakejdgfcaaGreatDoorCards
import Derived.ShutString
import Derived.LaidMore
import Derived.LaidSub
import Derived.Lay
import Derived.SevenTiedAt
import Derived.Stop.Joined
import Derived.Laws.IdiomArrays
import Derived.ChangeOld
import Derived.Below
import Derived.Lib.LaidTab
set_option linter.unusedVariables false
set_option linter.unusedSimpArgs false
namespace Go.Proofs.Q
open Go Go.Bb Go.RowKit Go.Proofs.Lg
open Go.Ab (D RD)
theorem Ef(A B:List af)(x y:af)(o:Nat)(a:o=A.length*139):aV (jZ (A++x::B)) o 139 ((aQ y).map .d)=some (jZ (A++y::B)):=by
 unfold jZ;refine bZ (A:=(A.map aQ).flatten) (B:=aQ x) (C:=(B.map aQ).flatten) (by simp) ?_ (dN x) (dN y) (by simp);rw[a,Go.Ab.flatten_len (sz:=139) _ fun r b=>by obtain⟨x,_,rfl⟩:=cy.1 b;exact dN x,aL]
theorem Ny(l:List af)(b:l.length≤1000):oV 139 l.length (jZ l)=some (.d (.sl 139 (l.map aQ))):=by
 unfold oV;rw[if_pos ⟨NG l,by omega⟩];unfold jZ;rw[LC,eY];have:=xy 139 (l.map aQ) fun r a=>by obtain⟨x,_,rfl⟩:=cy.1 a;exact dN x
 rw[aL]at this;rw[this]
abbrev bl:af:=⟨5,af.zero.file,af.zero.type,af.zero.parent,af.zero.name,af.zero.mode,af.zero.data,af.zero.after,af.zero.before,af.zero.lines,af.zero.over⟩
abbrev aS:af:=⟨5,af.zero.file,af.zero.type,af.zero.parent,af.zero.name,af.zero.mode,af.zero.data,af.zero.after,af.zero.before,[⟨#[120]⟩],af.zero.over⟩
abbrev av:af:=⟨2,af.zero.file,af.zero.type,⟨Dg.zero,-1⟩,⟨#[102]⟩,af.zero.mode,af.zero.data,af.zero.after,af.zero.before,af.zero.lines,af.zero.over⟩
abbrev ah:af:=⟨1,af.zero.file,1,af.zero.parent,af.zero.name,af.zero.mode,af.zero.data,af.zero.after,af.zero.before,af.zero.lines,af.zero.over⟩
abbrev bo:af:=⟨5,⟨dP,0⟩,af.zero.type,af.zero.parent,af.zero.name,af.zero.mode,af.zero.data,⟨dP,2⟩,⟨dP,0⟩,af.zero.lines,af.zero.over⟩
abbrev cf:af:=⟨5,⟨dP,0⟩,af.zero.type,af.zero.parent,af.zero.name,af.zero.mode,af.zero.data,⟨dP,2⟩,⟨dP,0⟩,[⟨#[121]⟩],af.zero.over⟩
set_option maxHeartbeats 4000000 in
set_option maxRecDepth 20000 in
theorem Nb:aE Tryz.prog 11 [] (dB true):=by
 obtain⟨⟨K,n1⟩,Z⟩:=Fg Yk;obtain⟨⟨Y,n2⟩,z2⟩:=Fg Yl;obtain⟨⟨L,Q⟩,zR⟩:=Fg Ym;have i:=Ek [] fa ⟨by simp,by simp⟩ K Z;rw[Ow]at i;have c:=Ek [⟨dP,fa⟩] (jc dP) ⟨by simp,by simpa using K⟩ Y z2;rw[OA]at c;have j:=Ek gN kh ⟨by simp[gN],by intro x a;simp[gN]at a;rcases a with rfl|rfl<;>assumption⟩ L zR;rw[OH]at j
 have G:gK bE gN:=D0 bE OJ;have u: ∀x∈gN,cV x.pat∧e8 x.pat:=by intro x a;simp[gN]at a;rcases a with rfl|rfl<;>constructor<;>assumption
 have O: ∀x∈gN,(bB x.pat).length≤100000:=by intro x a;simp[gN]at a;(rcases a with rfl|rfl);exact Iw;exact Iv
 have h: ∀x∈fj,cV x.pat∧e8 x.pat:=by intro x a;simp[fj]at a;rcases a with rfl|rfl|rfl<;>constructor<;>assumption
 have g: ∀x∈fj,(bB x.pat).length≤1000000:=by intro x a;simp[fj]at a;(rcases a with rfl|rfl|rfl);exact eS Iw a8;exact eS Qn a8;exact eS Iv a8
 have l:=LM G (by simp[gN]) u dP;rw[OE]at l;have m:=LK G (by simp[gN]) u O [dP] (by simp);rw[OD]at m;have k:=YT gN (by simp[gN]) u dP ⟨xZ,⟨#[]⟩,3⟩ (fun p P _=>by
  have g1:bM gN dP=some fa:=by rfl
  rw[g1]at P;obtain rfl:=az P;rw[Ov];exact⟨L,Q⟩)
 rw[OF]at k;have b:=OI;have e:=Ic fj (by simp[fj]) h g b ⟨dQ,0⟩;rw[Ox]at e;have f:=Ic fj (by simp[fj]) h g b ⟨dP,0⟩;rw[OB]at f;have N:=PV xZ 3;simp only[El,eg]at i;simp only[El]at c j;have C:(b8 ⟨dP,fa⟩)=b8 ⟨dP,fa⟩:=rfl;dsimp only at l m k
 obtain⟨A1,o⟩: ∃A,A=[(⟨dP,fa⟩:bU)].map b8:=⟨_,rfl⟩
 obtain⟨M,q⟩: ∃A,A=gN.map b8:=⟨_,rfl⟩
 obtain⟨A3,r⟩: ∃A,A=fj.map b8:=⟨_,rfl⟩
 rw[←o]at i c;rw[←q]at c j l m k;rw[←r]at j e f;have e1:bk fa=[D.sc (.string xY),.sc (.string ⟨#[]⟩),.sc (.int .i64 0),.sl 32 [],.sl 139 (fa.changes.map aQ)]:=rfl;clear K n1 Z Y n2 z2 L Q zR G u O h g b o q r;refine ph (F:=yO) RH (by simp[yO]) ?_;simp only[yO];refine AC.seq (bL ?_)
 refine aw @wj trivial ?_;refine AC.seq (bL ?_);have s:aV ((aQ bl).map .d) 137 1 [.d (.sl 1 [[.sc (.string ⟨#[120]⟩)]])]=some ((aQ aS).map .d):=BI bl [⟨#[120]⟩];have S:aV M4 0 139 ((aQ ah).map .d)=some (jZ [ah,.zero,.zero]):=Ef [] [.zero,.zero] .zero ah 0 rfl
 have T:aV (jZ [ah,.zero,.zero]) 139 139 ((aQ av).map .d)=some (jZ [ah,av,.zero]):=Ef [ah] [.zero] .zero av 139 rfl;have H:aV (jZ [ah,av,.zero]) 278 139 ((aQ aS).map .d)=some (jZ fa.changes):=Ef [ah,av] [] .zero aS 278 rfl;have w:oV 139 3 (jZ fa.changes)=some (.d (.sl 139 (fa.changes.map aQ))):=Ny fa.changes (by decide)
 have U:aV l9 0 1 [.d (.sc (.string ⟨#[97,110,110]⟩))]=some ((bk {b9.zero with author:=xY}).map .d):=rfl;have I:aV ((bk {b9.zero with author:=xY}).map .d) 4 1 [.d (.sl 139 (fa.changes.map aQ))]=some ((bk fa).map .d):=rfl;obtain⟨E1,z⟩: ∃E,E=fa:=⟨_,rfl⟩
 rw[←z]at i H w I;refine aw (ga @s (ga @S (ga @T (ga @H (ga @w (ga @U (ga @I (ga @aM (ga @dN (ga @bc (ga @jm @wj))))))))))) (ga @xj @i) ?_;clear s S T H w U I;refine AC.seq (bL ?_);refine aw (ga @aM (ga @fS (ga @dN (ga @bc @wj)))) trivial ?_;have v:(⟨dP,ar.zero.n⟩:ar)=⟨dP,0⟩:=rfl;rw[v]
 have t:aV ((aQ bo).map .d) 137 1 [.d (.sl 1 [[.sc (.string ⟨#[121]⟩)]])]=some ((aQ cf).map .d):=BI bo [⟨#[121]⟩];have V:aV l9 0 1 [.d (.sc (.string ⟨#[98,111,98]⟩))]=some ((bk {b9.zero with author:=Dc}).map .d):=rfl;have J:aV ((bk {b9.zero with author:=Dc}).map .d) 4 1 [.d (.sl 139 [aQ cf])]=some ((bk (jc dP)).map .d):=rfl
 obtain⟨E2,B⟩: ∃E,E=jc dP:=⟨_,rfl⟩
 rw[←B]at c J;refine AC.seq (bL ?_);refine aw (ga @t (ga @V (ga @J (ga @aM (ga @fS (ga @dN (ga @bc (ga @jm @wj)))))))) @c ?_;clear t V J i c e1 C v;refine AC.frame (fr0:=[(1,.d (.sl 37 M)),(2,.ptr 0 0),(3,.d (dI 0)),(4,.ptr 1 0),(5,.ptr 2 0),(6,.d (dI 0))]) ?_ (lr.sub ⟨rfl,rfl,rfl,rfl,rfl,rfl,trivial⟩);refine AC.seq (bL ?_)
 refine aw (ga @bc @wj) @l ?_;refine AC.seq (bL ?_);refine aw (ga @bc (ga @jm @wj)) @m ?_;refine AC.seq (bL ?_);refine aw (ga @bc (ga @c9 (ga @kq (ga @ew @wj)))) (ga @N @k) ?_;clear l m k N
 refine AC.frame (fr0:=[(1,.d (.sl 37 M)),(3,.d (dI 0)),(4,.ptr 1 0),(5,.ptr 2 0),(6,.d (dI 0)),(8,.d (dI 19)),(9,.d (.sl 37 [])),(10,.d (.sl 32 [aq dQ,aq dP])),(11,.d (dI 0)),(12,.ptr 3 0),(13,.d (dI 0))]) ?_ (lr.sub ⟨rfl,rfl,rfl,rfl,rfl,rfl,rfl,rfl,rfl,rfl,rfl,trivial⟩);obtain⟨y,W,X,ro⟩: ∃y,kh.changes[0]?=some y∧kh.changes.length=1∧y.over.length=5:=⟨_,rfl,rfl,rfl⟩
 obtain⟨R,hR⟩: ∃R,R=kh:=⟨_,rfl⟩
 rw[←hR]at W X j⊢;refine AC.seq (bL ?_)
 repeat' first|refine ak (fun _=> ?_) fun _=> ?_|refine aD ?_|simp only[W,X,ro,Int.reduceBNe,Int.reduceLE,Int.reduceToNat,aL,aU,aY,wj,wy,qg,aC,reduceCtorEq,reduceIte,Nat.reduceAdd,Nat.reduceMul,Nat.reduceEqDiff,Nat.reduceLT,Nat.reduceLeDiff,Nat.reduceSub,ax,aB,ay,au]
 refine AC.seq (bL ?_);refine aw (ga @bc (ga @c9 (ga @jm @wj))) @j ?_;refine bL ?_;have v:(⟨dQ,ar.zero.n⟩:ar)=⟨dQ,0⟩:=rfl;exact bx (ga @v (ga @bc (ga @aM (ga @fS @wj)))) (ga @e @f)
end Go.Proofs.Q
namespace Go.Proofs.Q
open Go Go.Bb Go.Proofs.Lg
open Go.Ab (D)
def cO(s:aP):Prop:= ∃r:Dg→Nat,∀x∈s,∀e∈bB x.pat,r e<r x.id
theorem lp.inj{s:aP}{o:List Dg}(h:lp s o){i j:Nat}{d:Dg}(b:o[i]?=some d)(c:o[j]?=some d):i=j:=by
 have a: ∀i j:Nat,o[i]?=some d→o[j]?=some d→ ¬j<i:=fun i j b c e=>by
  obtain⟨_,_,_,k,_⟩:=h i d b;exact k (bT (i:=j) (by rw[gb,if_pos e,c]))
 have:=a i j b c;have:=a j i c b;omega
theorem h8{H:aZ→Dg}{s:aP}(h:gK H s):cO s:=by
 obtain⟨c,m⟩:=E9 h;refine⟨fun d=>Classical.epsilon fun i=>(iU s)[i]?=some d,fun x g e o=> ?_⟩;have q:(iU s)[Classical.epsilon fun i=>(iU s)[i]?=some x.id]?=some x.id:=Classical.epsilon_spec (p:=fun i=>(iU s)[i]?=some x.id) (jR ((m x.id).2 (j3 (f:=bU.id) g)));obtain⟨y,t,k,u,n⟩:=c _ _ q
 have l:=Dt h.sorted.nodup x g y t k.symm;subst l;obtain⟨j,a⟩:=jR (n e o);rw[gb]at a;split at a
 ·rename_i b;have r:=Classical.epsilon_spec (p:=fun i=>(iU s)[i]?=some e) ⟨j,a⟩;dsimp only;rw[c.inj r a];exact b
 ·cases a
theorem eB{a:List Dg}: ∀{s:aP} {i:Nat} {k:Option (Nat×Dg)},mD a s i k=none→k=none∧ ∀x∈s,x.id∉a→ ∃e∈bB x.pat,e∉a
 |[],i,k,h=>⟨by cases k<;>exact h,by simp⟩
 |x::s,i,k,h=>by
  rw[Qv]at h;obtain⟨b,l⟩:=eB h;split at b
  ·cases b
  ·rename_i p;refine⟨b,fun y c f=> ?_⟩;rcases bY.1 c with rfl|c
   ·apply iK;intro n;apply p;subst b;have g:bN a y.id=false:=by
     cases m:bN a y.id
     ·rfl
     ·exact absurd ((kU _ _).1 m) f
    have j:gj a (bB y.pat)=true:=(qV _ _).2 fun d o=>iK fun q=>n ⟨d,o,q⟩;rw[g,j];rfl
   ·exact l y c f
theorem ei{s:aP}(r:Dg→Nat)(a:List Dg): ∀n:Nat,(∃x∈s,x.id∉a∧r x.id≤n)→ ∃x∈s,x.id∉a∧ ∀y∈s,y.id∉a→r x.id≤r y.id
 |0,⟨x,hx,hn,hr⟩=>⟨x,hx,hn,fun y _ _=>by omega⟩
 |n+1,⟨x,hx,hn,hr⟩=>by
  by_cases h: ∃y∈s,y.id∉a∧r y.id≤n
  ·exact ei r a n h
  ·refine⟨x,hx,hn,fun y d b=> ?_⟩;apply iK;intro c;exact h ⟨y,d,b,by omega⟩
theorem eC{s:aP}(p:cO s)(u: ∀x∈s,∀e∈bB x.pat,e∈bA s)(g:(bA s).Nodup): ∀(f:Nat) (a:List Dg),lp s a→s.length≤a.length+f→s.length≤(qj s f a).length
 |0,a,h,hf=>hf
 |f+1,a,h,hf=>by
  cases j:mD a s 0 none with
  |none=>
   rw[qj,j];dsimp only;have b: ∀d∈bA s,d∈a:=by
    intro d k;obtain⟨x,B,rfl⟩:=cy.1 k;apply iK;intro m;obtain⟨r,A⟩:=p;obtain⟨y,n,o,c⟩:=ei r a (r x.id) ⟨x,B,m,bh _⟩;obtain⟨e,t,l⟩:=(eB j).2 y n o;obtain⟨z,C,rfl⟩:=cy.1 (u y n e t);have i:=A y n _ t;have w:=c z C l;omega
   have i:=tS g b;have w:(bA s).length=s.length:=aL _;omega
  |some q=>
   have i:=(E8 (s:=s) 1 a h).1;have v:qj s 1 a=a++[q.2]:=by rw[qj,j];rfl
   rw[v]at i;rw[qj,j];exact eC p u g f (a++[q.2]) i (by rw[aN,qP];omega)
section
variable (H:aZ→Dg)
theorem cP: ∀(s:aP) (q:Option Dg),(∀x∈s,(dh H x.pat).2=0∧(dh H x.pat).1=x.id)→dA (q.toList++bA s)→pQ H q s=0
 |[],q,_,_=>by cases q<;>rfl
 |x::s,q,h1,h2=>by
  obtain⟨c,d⟩:=h1 x (by simp);rw[pQ,if_neg (by rw[c];simp),if_neg (by rw[d];simp)];have a:dA (bA (x::s)):=by
   cases q with
   |none=>exact h2
   |some q=>exact(mQ.1 (show dA (q::bA (x::s))from h2)).2
  rw[if_neg]
  ·exact cP s (some x.id) (fun y b=>h1 y (jS _ b)) a
  ·cases q with
   |none=>simp
   |some q=>
    have:=(mQ.1 (show dA (q::bA (x::s))from h2)).1 x.id (by simp[bA]);simp;omega
theorem cT{ids:List Dg}: ∀{s:aP},(∀x∈s,∀d∈bB x.pat,d∈ids)→pV ids s=0
 |[],_=>rfl
 |y::s,h=>by
  rw[pV,if_pos ((qV _ _).2 (h y (by simp)))];exact cT fun x a=>h x (jS _ a)
theorem cK{s:aP}: ∀{r:aP},ui H s r=0↔ ∀x∈r,mI H s x.id x.pat.changes=0
 |[]=>by simp[ui]
 |y::r=>by
  rw[ui];constructor
  ·intro h x a;obtain⟨b,c⟩:=Jy h;rcases bY.1 a with rfl|a
   ·exact b
   ·exact cK.1 c x a
  ·intro h;rw[h y (by simp),TU,cK.2 fun x a=>h x (jS _ a)]
theorem cS{s:aP}(h:mZ H s=0):s.length≤400∧ ∀x∈s,mI H s x.id x.pat.changes=0:=by
 unfold mZ at h;split at h
 ·cases h
 rename_i c;obtain⟨d,b⟩:=Jy h;obtain⟨e,a⟩:=Jy b;split at a
 ·cases a
 exact⟨by omega,(cK H).1 a⟩
theorem gw{s:aP}(h:s.length≤400)(b: ∀x∈s,(dh H x.pat).2=0∧(dh H x.pat).1=x.id)(e:dA (bA s))(c: ∀x∈s,∀d∈bB x.pat,d∈bA s)(a:cO s)(f: ∀x∈s,mI H s x.id x.pat.changes=0):mZ H s=0:=by
 have g:s.length≤(iU s).length:=eC a c e.nodup s.length [] (fun i d a=>by simp at a) (by simp);unfold mZ;rw[if_neg a8,cP H s none b e,TU,cT c,TU,if_neg a8,(cK H).2 f]
theorem cu{s t:aP}{x:ar}{f:aJ→Bool}(h:isZero x.p=false→bM s x.p=bM t x.p):qA H s x f=qA H t x f:=by
 unfold qA;cases a:isZero x.p with
 |true=>rfl
 |false=>
  have:qW H s x=qW H t x:=by unfold qW;rw[h a]
  rw[this]
theorem eD{s t:aP}{c:af}{a:Dg}: ∀{l:List ar},(∀y∈l,isZero y.p=false→bM s y.p=bM t y.p)→sk H s c a l=sk H t c a l
 |[],_=>rfl
 |x::l,h=>by
  rw[sk,sk,cu H (h x (by simp)),eD fun y b=>h y (jS _ b)]
theorem gk{s t:aP}{c:af}{a:Dg}(h: ∀y∈lN c,isZero y.p=false→bM s y.p=bM t y.p):pP H s c a=pP H t c a:=by
 unfold lN at h;simp only[bY,forall_eq_or_imp]at h;obtain⟨b,d,e,f,g⟩:=h;unfold pP tG;rw[cu H b,cu H d,cu H e,cu H f,eD H g]
theorem eL{s t:aP}{a:Dg}: ∀{l:List af},(∀c∈l,∀y∈lN c,isZero y.p=false→bM s y.p=bM t y.p)→mI H s a l=mI H t a l
 |[],_=>rfl
 |c::l,h=>by
  rw[mI,mI,gk H (h c (by simp)),eL fun y b=>h y (jS _ b)]
theorem hM{p:b9}(h:(dh H p).2=0):iD p=0:=by
 unfold dh at h;unfold iD;by_cases a:(dK p).2≠0
 ·rw[if_pos a]at h;exact h
 ·exact iK a
theorem kr{p:b9}(h:iD p=0): ∀c∈p.changes,∀y∈lN c,isZero y.p=false→y.p∈bB p:=by
 intro c a y b d;unfold bB;rw[if_neg (by simp[h])];exact((DQ _ _ (uy _ _ dA.nil).1).2 _).2 (.inl ⟨c,a,y,b,d,rfl⟩)
theorem lb{s t:aP}{a:Dg}{p:b9}(e:(dh H p).2=0)(h: ∀d∈bB p,bM s d=bM t d):mI H s a p.changes=mI H t a p.changes:=
 eL H fun c b y f g=>h _ (kr (hM H e) c b y f g)
end
theorem hC{s:aP}{f:Dg→Bool}: ∀{d:Dg},f d=true→bM (s.filter fun x=>f x.id) d=bM s d:=by
 induction s with
 |nil=>intro d _;rfl
 |cons x s c=>
  intro d b;by_cases a:f x.id=true
  ·rw[List.filter_cons_of_pos (by simpa using a),bM,bM,c b]
  ·rw[List.filter_cons_of_neg (by simpa using a),c b,bM,if_neg];intro e;rw[e]at a;exact a b
theorem cx{s:aP}{f:Dg→Bool}{d:Dg}:d∈bA (s.filter fun x=>f x.id)↔d∈bA s∧f d=true:=by
 constructor
 ·intro h;obtain⟨x,a,rfl⟩:=cy.1 h;obtain⟨b,c⟩:=List.mem_filter.1 a;exact⟨j3 (f:=bU.id) b,c⟩
 ·rintro⟨h,e⟩;obtain⟨x,a,rfl⟩:=cy.1 h;exact j3 (f:=bU.id) (List.mem_filter.2 ⟨a,e⟩)
theorem gv{H:aZ→Dg}{s:aP}(h:mZ H s=0)(f:Dg→Bool)(g: ∀x∈s,f x.id=true→ ∀d∈bB x.pat,f d=true):mZ H (s.filter fun x=>f x.id)=0:=by
 have e:=D0 H h;obtain⟨i,j⟩:=cS H h;have b: ∀x∈s.filter (fun x=>f x.id),x∈s∧f x.id=true:=fun x a=>List.mem_filter.1 a;refine gw H (eS (List.length_filter_le _ _) i) (fun x a=>e.id x (b x a).1) ?_ (fun x a d c=>cx.2 ⟨e.needs x (b x a).1 d c,g x (b x a).1 (b x a).2 d c⟩) ?_ (fun x a=> ?_)
 ·exact List.Pairwise.sublist (List.Sublist.map _ List.filter_sublist) e.sorted
 ·obtain⟨r,c⟩:=h8 e;exact⟨r,fun x a=>c x (b x a).1⟩
 ·rw[lb H (t:=s) (e.id x (b x a).1).1 fun d c=>hC (g x (b x a).1 (b x a).2 d c)];exact j x (b x a).1
end Go.Proofs.Q
namespace Go.Proofs.Q
open Go Go.Bb Go.Proofs.Lg
open Go.Ab (D)
def cr(s:aP)(p q:Dg):Bool:=decide ((mr s [p]).2=0)&&(bN (bA s) q&&bN (mr s [p]).1 q)
section
variable (H:aZ→Dg)
end
theorem eb{H:aZ→Dg}{s:aP}(h:gK H s){p q:Dg}(d:p∈bA s)(e:q∈bA s):cr s p q=true↔ ∃j,Path s j p q:=by
 obtain⟨b,c⟩:=Iq h (ids:=[p]) (by simpa using d);have a:(mr s [p]).2=0:=by rw[b]
 unfold cr;rw[a,(kU _ _).2 e];simp only[decide_true,Bool.true_and];rw[kU,c];simp
def cn(s:aP)(p:Dg):List Dg→Bool→Bool
 |[],u=>u
 |d::l,u=>cn s p l (u||cr s p d)
theorem eO(s:aP)(p:Dg): ∀(l:List Dg) (u:Bool),cn s p l u=true↔u=true∨ ∃d∈l,cr s p d=true
 |[],u=>by simp[cn]
 |d::l,u=>by
  rw[cn,eO s p l];simp only[jN,bY,exists_eq_or_imp,or_assoc]
theorem ln{H:aZ→Dg}{s:aP}(h:gK H s){ids:List Dg}(e: ∀d∈ids,d∈bA s){x:bU}(i:x∈s):cn s x.id ids false=bN (ej s ids).1 x.id:=by
 have a:x.id∈bA s:=j3 (f:=bU.id) i;rw[nQ,eO,kU,(Fw h e).2.2];constructor
 ·rintro(c|⟨d,b,c⟩)
  ·cases c
  ·obtain⟨j,g⟩:=(eb h a (e d b)).1 c;exact⟨a,d,b,j,g⟩
 ·rintro⟨_,d,b,j,g⟩;exact .inr ⟨d,b,(eb h a (e d b)).2 ⟨j,g⟩⟩
theorem hY{s:aP}{U:List Dg}{x:bU}(g:x∈s):(bM (kF U s) x.id).isSome= !bN U x.id:=by
 have b:x.id∈bA s:=j3 (f:=bU.id) g;have a:bM (kF U s) x.id=none↔bN U x.id=true:=by
  unfold kF;rw[Dm,cx (f:=fun d=> !bN U d)];simp[b]
 cases c:bN U x.id
 ·cases e:bM (kF U s) x.id
  ·rw[e]at a;rw[c]at a;simp at a
  ·rfl
 ·rw[a.2 c];rfl
theorem eA{α:Type}(f:α→Bool): ∀s:List α,s.length=(s.filter f).length+(s.filter fun x=> !f x).length
 |[]=>rfl
 |x::s=>by
  have:=eA f s;cases h:f x
  ·rw[List.filter_cons_of_neg (by simp[h]),List.filter_cons_of_pos (by simp[h])];simp only[aU];omega
  ·rw[List.filter_cons_of_pos (by simp[h]),List.filter_cons_of_neg (by simp[h])];simp only[aU];omega
theorem jw{s:aP}{U:List Dg}(h:(bA s).Nodup)(g:U.Nodup)(b: ∀d∈U,d∈bA s):(kF U s).length+U.length=s.length:=by
 have e:((s.filter fun x=>bN U x.id).map bU.id).Nodup:=(List.Sublist.map _ List.filter_sublist).nodup h;have i:U.length=(s.filter fun x=>bN U x.id).length:=by
  have c:((s.filter fun x=>bN U x.id).map bU.id).length=(s.filter fun x=>bN U x.id).length:=aL _;rw[←c];refine Nat.le_antisymm (tS g fun d a=> ?_) (tS e fun d a=> ?_)
  ·exact(cx (f:=fun d=>bN U d)).2 ⟨b d a,(kU _ _).2 a⟩
  ·exact(kU _ _).1 ((cx (f:=fun d=>bN U d)).1 a).2
 have j:s.length=(s.filter fun x=>bN U x.id).length+(s.filter fun x=> !bN U x.id).length:=eA (fun x=>bN U x.id) s;unfold kF;omega
theorem kf{H:aZ→Dg}{s:aP}(m:mZ H s=0){ids:List Dg}(l:(ji s ids).2.2=0):
  mZ H (ji s ids).1=0∧(ji s ids).1.length+(ji s ids).2.1.length=s.length∧(∀y∈(ji s ids).1,y∈s)∧
  ∀x∈s,(bM (ji s ids).1 x.id).isSome= !cn s x.id ids false∧bN (ji s ids).2.1 x.id=cn s x.id ids false:=by
 have b:=D0 H m;have h: ∀d∈ids,d∈bA s:=by
  intro d a;apply iK;intro r;rw[UJ a r]at l;cases l
 obtain⟨v,u,k⟩:=Fw b h;rw[UK b h];dsimp only;refine⟨gv m (fun d=> !bN (ej s ids).1 d) fun x c g d a=> ?_,jw b.sorted.nodup u.nodup fun d a=>((k d).1 a).1,fun y t=>(List.mem_filter.1 t).1,fun x c=> ?_⟩
 ·simp only[uD]at g⊢;have i:x.id∉(ej s ids).1:=fun q=>by rw[(kU _ _).2 q]at g;cases g
  cases n:bN (ej s ids).1 d
  ·rfl
  ·exfalso;obtain⟨_,e,o,j,p⟩:=(k d).1 ((kU _ _).1 n);refine i ((k x.id).2 ⟨j3 (f:=bU.id) c,e,o,j+1,d,?_,p⟩);unfold oO;rw[vq b.sorted.nodup x c];exact a
 ·rw[ln b h c];exact⟨hY c,rfl⟩
theorem ke{H:aZ→Dg}{s:aP}(f:mZ H s=0){ids:List Dg}(c:(ji s ids).2.2≠0):ji s ids=([],[],7)∧(ids.any fun d=>decide (bM s d=none))=true:=by
 have g:=D0 H f;obtain⟨d,b,a⟩: ∃d,d∈ids∧d∉bA s:=iK fun e=>c (by rw[UK g fun x h=>iK fun a=>e ⟨x,h,a⟩]);exact⟨UJ b a,List.any_eq_true.2 ⟨d,b,decide_eq_true (Dm.2 a)⟩⟩
end Go.Proofs.Q
namespace Go.Proofs.Q
open Go Go.Ab Go.Bb
def cm:CF:=⟨121, (.seq (fo [o0 4 (.mov xF)]) (.seq (.seq (fo [om 19 0,o6 20 10 [.t 19],o0 21 (.not (.t 20)),om 22 21,oh 23 22 false 1,og 24 22 false (.len 0 (.t 23)),og 25 22 false (.bin .gtr (.t 24) (xi 10)),o0 26 (.pick (.t 22) xT (.t 25))]) (.cond (.t 26) (.seq (fo [o6 27 11 [],om 4 27]) .ret) .skip)) (.seq (fo [om 29 0,om 30 1,o6 31 14 [.t 29,.t 30],om 28 31,oe 32 28 0,oe 33 28 1,oe 34 28 2,om 5 32,om 6 33,om 7 34]) (.seq (.seq (fo [om 35 7,o5 36 .neq 35 0]) (.cond (.t 36) (.seq (.seq (fo [om 37 1,o9 38 0 37,o7 39 0]) (.block 0 (.loop (.trim [6,5,7,39,0,37,38] (.seq (fo [o4 40 .lss 39 38]) (.seq (.cond (.t 40) .skip (.exit 0)) (.seq (.block 1 (.seq (fo [oi 41 32 37 39,o2 42 32 41,o0 9 (.box (.c (.agg cN))),o8 32 9 42]) (.seq (fo [om 44 0,o2 45 32 9,o6 46 21 [.t 44,.t 45],om 43 46,oe 47 43 0,oe 48 43 1,o0 10 (.box (.c (.agg iY))),o8 5 10 47,om 11 48]) (.seq (fo [om 49 11,o0 50 (.not (.t 49))]) (.cond (.t 50) (.seq (fo [om 51 7,o5 52 .eql 51 7,om 53 52,oh 54 53 true 5,og 55 53 true (.len 0 (.t 54)),oh 56 53 true 6,og 57 53 true (.len 0 (.t 56)),og 58 53 true (.bin .add (.t 55) (.t 57)),og 59 53 true (.bin .eql (.t 58) (xi 0)),o0 60 (.pick (.t 53) (.t 59) xF),om 61 60,og 62 61 true (.call (.fn 11) []),o0 63 (.pick (.t 61) (.t 62) xF),om 4 63]) .ret) .skip))))) (fo [o5 64 .add 39 1,om 39 64])))))))) (.seq (fo [o0 4 (.mov xF)]) .ret)) .skip)) (.seq (.seq (fo [om 65 0,o9 66 0 65,o7 67 0]) (.block 2 (.loop (.trim [67,6,5,0,1,65,66] (.seq (fo [o4 68 .lss 67 66])
 (.seq (.cond (.t 68) .skip (.exit 2)) (.seq (.block 3 (.seq (fo [oi 69 37 65 67,o2 70 37 69,o0 13 (.box (.c (.agg lV))),o8 37 13 70]) (.seq (fo [o0 14 (.mov xF)]) (.seq (.seq (fo [om 71 1,o9 72 0 71,o7 73 0]) (.block 4 (.loop (.trim [73,13,0,14,71,66,65,1,5,6,67,72] (.seq (fo [o4 74 .lss 73 72]) (.seq (.cond (.t 74) .skip (.exit 4)) (.seq (.block 5 (.seq (fo [oi 75 32 71 73,o2 76 32 75,o0 16 (.box (.c (.agg cN))),o8 32 16 76]) (fo [om 77 14,om 78 77,oh 79 78 false 0,og 80 78 false (.fad 0 (.t 13)),og 81 78 false (.ld (some 32) (.t 80)),og 82 78 false (.ld (some 32) (.t 16)),og 83 78 false (.call (.fn 22) [.t 79,.t 81,.t 82]),o0 84 (.pick (.t 78) xT (.t 83)),om 14 84]))) (fo [o5 85 .add 73 1,om 73 85])))))))) (.seq (fo [om 87 5,o1 88 0 13,o2 89 32 88,o6 90 21 [.t 87,.t 89],om 86 90,oe 91 86 0,oe 92 86 1,o0 17 (.box (.c (.agg iY))),o8 5 17 91,om 18 92]) (.seq (fo [om 93 18,om 94 14,o0 95 (.eqa false [.b] false (.t 93) (.t 94)),om 96 95,oh 97 96 false 6,og 98 96 false (.fad 0 (.t 13)),og 99 96 false (.ld (some 32) (.t 98)),og 100 96 false (.call (.fn 23) [.t 97,.t 99]),oh 101 96 false 14,og 102 96 false (.eqa false [.b] true (.t 100) (.t 101)),o0 103 (.pick (.t 96) xT (.t 102))]) (.cond (.t 103) (.seq (fo [o0 4 (.mov xF)]) .ret) .skip))))))) (fo [o5 104 .add 67 1,om 67 104]))))))))
 (.seq (fo [om 105 5,o6 106 20 [.t 105],o5 107 .eql 106 0,om 108 107,oh 109 108 true 5,og 110 108 true (.len 0 (.t 109)),oh 111 108 true 6,og 112 108 true (.len 0 (.t 111)),og 113 108 true (.bin .add (.t 110) (.t 112)),oh 114 108 true 0,og 115 108 true (.len 0 (.t 114)),og 116 108 true (.bin .eql (.t 113) (.t 115)),o0 117 (.pick (.t 108) (.t 116) xF),om 118 117,og 119 118 true (.call (.fn 11) []),o0 120 (.pick (.t 118) (.t 119) xF),om 4 120]) .ret)))))),[.tmp 4]⟩
theorem cH:aG Tryz.prog [] 5=some cm.erase:=by kernel_rfl
def cB:CF:=⟨29, (.seq (fo [ox 4 1,ox 5 2,o0 6 (.mov xF)]) (.seq (fo [om 10 0,o2 11 32 4,o0 12 (.bsf 32 1 cN [(0,32,(.t 11))]),o6 13 56 [.t 10,.t 12],om 9 13,oe 14 9 0,oe 15 9 1,om 7 14,om 8 15]) (.seq (.ops true [0,1,3,7,15,7,63,127,255,511,511,2047,4095,8191] [om 16 8,o5 17 .eql 16 0,om 18 17,oh 19 18 true 0,og 20 18 true (.call (.fn 51) [.t 19]),og 21 18 true (.ld (some 32) (.t 5)),og 22 18 true (.call (.fn 23) [.t 20,.t 21]),o0 23 (.pick (.t 18) (.t 22) xF),om 24 23,oh 25 24 true 7,og 26 24 true (.ld (some 32) (.t 5)),og 27 24 true (.call (.fn 23) [.t 25,.t 26]),o0 28 (.pick (.t 24) (.t 27) xF),om 6 28]) .ret))),[.tmp 6]⟩
theorem kc:aG Tryz.prog [100004,100005,100012] 22=some cB.erase:=by kernel_rfl
end Go.Proofs.Q
namespace Go.Proofs.Q
open Go Go.Bb Go.RowKit Go.Proofs.Lg
open Go.Ab (D RD)
theorem dk{s:List aa}{i:Nat}{o:aa}(h:s[i]?=some o)(l:List aa):(s++l)[i]?=some o:=by
 rw[eQ (aR.1 h).1];exact h
theorem kl(s:aP)(p q:Dg)(d:iC s)(a:s.length≤1000):aE Tryz.prog 22 [.sl 37 (s.map b8),.agg (aq p),.agg (aq q)] (dB (cr s p q)):=by
 have b:=Vg s [p] d a (by simp);have c:=BE s a8;unfold cr;refine aI (F:=cB) kc (by simp[cB]) ?_;simp only[cB]
 repeat' first|refine ak (fun _=> ?_) fun _=> ?_|refine aD ?_|refine aj.data (b) rfl ?_|refine aj.data (c) rfl ?_|refine aj.data (qq _ _) rfl ?_|simp only[eV,bc,aL,wy,qg,aC,reduceCtorEq,reduceIte,Nat.reduceAdd,Nat.reduceMul,Nat.reduceEqDiff,Nat.reduceLT,Nat.reduceLeDiff,Nat.reduceSub,ax,aB,ay,au]
 all_goals(clear b c;simp_all)
theorem ea(a:Bool):AV.key false (.d (.sc (.bool a)))=some [.bool a]:=rfl
theorem dd(a b:Bool):bw [.b] [.bool a] [.bool b]=some (a==b):=by cases a<;>cases b<;>rfl
set_option maxHeartbeats 1000000 in
set_option maxRecDepth 20000 in
theorem ib(g:aE Tryz.prog 11 [] (dB true))(s:aP)(ids:List Dg)(hz: ∀x∈s,x.pat.changes.length≤9223372036854775807)(M:my s=false→iC s∧ ∀x∈s,pn x.pat.changes)
  (V:oH bE s=true→ids.length≤10→aE Tryz.prog 14 [.sl 37 (s.map b8),.sl 32 (ids.map aq)] (.tup [.sl 37 ((ji s ids).1.map b8),.sl 32 ((ji s ids).2.1.map aq),dI (ji s ids).2.2])):
  aE Tryz.prog 5 [.sl 37 (s.map b8),.sl 32 (ids.map aq)] (dB true):=by
 have o:=Vh s hz M;by_cases B:oH bE s=true
 ·rw[B]at o;by_cases hi:ids.length>10
  ·have I:decide ((ids.length:Int)>10)=true:=by simp;omega
   refine aI (F:=cm) cH (by simp[cm]) ?_;simp only[cm]
   repeat' first|refine ak (fun _=> ?_) fun _=> ?_|refine aD ?_|refine aj.data (o) rfl ?_|refine aj.data (g) rfl ?_|simp only[I,wj,wy,qg,aC,reduceCtorEq,reduceIte,Nat.reduceAdd,Nat.reduceMul,Nat.reduceEqDiff,Nat.reduceLT,Nat.reduceLeDiff,Nat.reduceSub,ax,aB,ay,au]
   all_goals first|rfl|trace_state
  ·have I:decide ((ids.length:Int)>10)=false:=by simp;omega
   have v:=B;unfold oH at v;simp only[eI,uD,decide_eq_true_eq]at v;obtain⟨p,f⟩:=v;obtain⟨W,Z⟩:=M p;have z:=V B a8;have a0:s.length≤400:=(cS bE f).1;clear V M;by_cases G:(ji s ids).2.2=0
   ·obtain⟨E,w,J,Q⟩:=kf f G;obtain⟨T,H⟩: ∃T,T=(ji s ids).1:=⟨_,rfl⟩
    obtain⟨L,N⟩: ∃L,L=(ji s ids).2.1:=⟨_,rfl⟩
    rw[←H,←N,G]at z;rw[←H,←N]at w Q;rw[←H]at E J;have K:=Vf T ⟨by omega,fun x P=>W.pat x (J x P)⟩ fun x P=>Z x (J x P);rw[E]at K;have U:IntKind.i64.wrap ((T.length:Int)+(L.length:Int))=(s.length:Int):=by rw[←Int.natCast_add,w];exact ck a8 a8
    clear E w J H N G B f p;refine aI (F:=cm) cH (by simp[cm]) ?_;simp only[cm]
    repeat' first|refine ak (fun _=> ?_) fun _=> ?_|refine aD ?_|refine aj.data (o) rfl ?_|refine aj.data (z) rfl ?_|simp only[I,Int.reduceBNe,wj,wy,qg,aC,reduceCtorEq,reduceIte,Nat.reduceAdd,Nat.reduceMul,Nat.reduceEqDiff,Nat.reduceLT,Nat.reduceLeDiff,Nat.reduceSub,ax,aB,ay,au]
    refine aX.over s (fun k (b:List aa)=>[(67,iN k)]) (fun _ b=>b) (fun _ _=>true) true [] a8 aA aA rfl rfl (fun k b x p hk e A n=> ?_) (fun b e n=> ?_)
    ·obtain⟨X,Y⟩:=Q x (bT p);have m:=vQ T x.id;have ch_:=qq L x.id;rw[X]at m;rw[Y]at ch_;clear o z K Q n X Y g U
     repeat' first|refine ak (fun _=> ?_) fun _=> ?_|refine aD ?_|simp only[e,A,p,FF,iw,aL,wj,wy,qg,aC,reduceCtorEq,reduceIte,Nat.reduceAdd,Nat.reduceMul,Nat.reduceEqDiff,Nat.reduceLT,Nat.reduceLeDiff,Nat.reduceSub,ax,aB,ay,au]
     refine aX.overI ids (fun j (q:Bool×List aa)=>[(73,iN j),(14,.d (dB q.1))]) (fun _ q=>q.2) (fun r q=>cn s x.id r q.1) (cn s x.id ids false) (fun _ q=>q.2[b.length]?=some (.cells ((b8 x).map .d))) (false,b++[.cells ((b8 x).map .d)]) a8 aA aA rfl rfl (by simp) (fun j q y C hj i D a t=> ?_) (fun q i a t=> ?_)
     ·obtain⟨u,q⟩:=q;dsimp only at a t;rw[cn]at a;have ck_:=kl s x.id y W a8;have c:=dk t [aa.cells ((aq y).map .d)];clear m ch_;cases u
      ·repeat' first|refine ak (fun _=> ?_) fun _=> ?_|refine aD ?_|refine aj.data (ck_) rfl ?_|simp only[i,D,C,c,eV,bc,aL,wj,wy,qg,aC,reduceCtorEq,reduceIte,Nat.reduceAdd,Nat.reduceMul,Nat.reduceEqDiff,Nat.reduceLT,Nat.reduceLeDiff,Nat.reduceSub,ax,aB,ay,au]
       all_goals(rename_i h;rw[h]at a;exact⟨(_,_),rfl,rfl,a,c⟩)
      ·repeat' first|refine ak (fun _=> ?_) fun _=> ?_|refine aD ?_|refine aj.data (ck_) rfl ?_|simp only[i,D,C,c,eV,bc,aL,wj,wy,qg,aC,reduceCtorEq,reduceIte,Nat.reduceAdd,Nat.reduceMul,Nat.reduceEqDiff,Nat.reduceLT,Nat.reduceLeDiff,Nat.reduceSub,ax,aB,ay,au]
       exact⟨(_,_),rfl,rfl,a,c⟩
     ·obtain⟨u,q⟩:=q;dsimp only at a t;rw[cn]at a;rw[a]at m ch_;have c:=fun l=>dk t l;have R:(true==false)=false:=rfl;have S:(false==true)=false:=rfl;cases u
      ·repeat' first|refine ak (fun _=> ?_) fun _=> ?_|refine aD ?_|refine aj.data (m) rfl ?_|refine aj.data (ch_) rfl ?_|simp only[i,t,c,ew,c9,aL,Bool.not_false,ea,dd,R,S,beq_self_eq_true,wj,wy,qg,aC,reduceCtorEq,reduceIte,Nat.reduceAdd,Nat.reduceMul,Nat.reduceEqDiff,Nat.reduceLT,Nat.reduceLeDiff,Nat.reduceSub,ax,aB,ay,au]
       exact⟨_,A,rfl⟩
      ·repeat' first|refine ak (fun _=> ?_) fun _=> ?_|refine aD ?_|refine aj.data (m) rfl ?_|refine aj.data (ch_) rfl ?_|simp only[i,t,c,ew,c9,aL,Bool.not_true,ea,dd,R,S,beq_self_eq_true,wj,wy,qg,aC,reduceCtorEq,reduceIte,Nat.reduceAdd,Nat.reduceMul,Nat.reduceEqDiff,Nat.reduceLT,Nat.reduceLeDiff,Nat.reduceSub,ax,aB,ay,au]
       exact⟨_,A,rfl⟩
    ·repeat' first|refine ak (fun _=> ?_) fun _=> ?_|refine aD ?_|refine aj.data (K) rfl ?_|refine aj.data (g) rfl ?_|simp only[e,U,beq_self_eq_true,wj,wy,qg,aC,reduceCtorEq,reduceIte,Nat.reduceAdd,Nat.reduceMul,Nat.reduceEqDiff,Nat.reduceLT,Nat.reduceLeDiff,Nat.reduceSub,ax,aB,ay,au]
     all_goals first|rfl|trace_state
   ·obtain⟨E,w⟩:=ke f G;rw[E]at z;rw[JQ]at w;refine aI (F:=cm) cH (by simp[cm]) ?_;simp only[cm]
    repeat' first|refine ak (fun _=> ?_) fun _=> ?_|refine aD ?_|refine aj.data (o) rfl ?_|refine aj.data (z) rfl ?_|simp only[I,Int.reduceBNe,wj,wy,qg,aC,reduceCtorEq,reduceIte,Nat.reduceAdd,Nat.reduceMul,Nat.reduceEqDiff,Nat.reduceLT,Nat.reduceLeDiff,Nat.reduceSub,ax,aB,ay,au]
    refine aX.over ids (fun k (b:List aa)=>[(39,iN k)]) (fun _ b=>b) (fun r _=>sn s r) true [] a8 aA aA rfl w.symm (fun k b x p hk e A n=> ?_) (fun b e n=> ?_)
    ·have m:=vQ s x;rw[sn]at n;clear o z w;have w0:IntKind.i64.wrap ((0:Int)+0)=0:=by decide
     cases O:(bM s x).isSome
     ·rw[O]at m
      repeat' first|refine ak (fun _=> ?_) fun _=> ?_|refine aD ?_|refine aj.data (m) rfl ?_|refine aj.data (g) rfl ?_|simp only[e,A,p,eV,bc,ew,c9,aL,Int.reduceBEq,w0,wj,wy,qg,aC,reduceCtorEq,reduceIte,Nat.reduceAdd,Nat.reduceMul,Nat.reduceEqDiff,Nat.reduceLT,Nat.reduceLeDiff,Nat.reduceSub,ax,aB,ay,au]
      all_goals first|rfl|trace_state
     ·rw[O]at m;rw[if_pos O]at n
      repeat' first|refine ak (fun _=> ?_) fun _=> ?_|refine aD ?_|refine aj.data (m) rfl ?_|simp only[e,A,p,eV,bc,ew,c9,aL,wj,wy,qg,aC,reduceCtorEq,reduceIte,Nat.reduceAdd,Nat.reduceMul,Nat.reduceEqDiff,Nat.reduceLT,Nat.reduceLeDiff,Nat.reduceSub,ax,aB,ay,au]
      exact n
    ·rw[sn]at n;cases n
 ·rw[show oH bE s=false by simpa using B]at o;refine aI (F:=cm) cH (by simp[cm]) ?_;simp only[cm]
  repeat' first|refine ak (fun _=> ?_) fun _=> ?_|refine aD ?_|refine aj.data (o) rfl ?_|refine aj.data (g) rfl ?_|simp only[wj,wy,qg,aC,reduceCtorEq,reduceIte,Nat.reduceAdd,Nat.reduceMul,Nat.reduceEqDiff,Nat.reduceLT,Nat.reduceLeDiff,Nat.reduceSub,ax,aB,ay,au]
  all_goals first|rfl|trace_state
end Go.Proofs.Q
namespace Go.Proofs.Q
open Go Go.RowKit Go.Bb Go.Proofs.Lg
open Go.Ab (RD D)
theorem kk(s:aP)(h:sW s)(ids:List Dg):aE Tryz.prog 5 [.sl 37 (s.map b8),.sl 32 (ids.map aq)] (dB true):=by
 refine ib Nb s ids (fun x a=>eS (h.pat x a).changes tQ) (FT h) fun b f=> ?_;obtain⟨_,e,c⟩:=P0 h b;have d:gK bE s:=D0 bE (by unfold oH at b;simp at b;exact b.2);exact LK d a8 (fun x a=>(c x a).1) (fun x a=>(c x a).2) ids a8
theorem unrecordPurges_walk{W:World}(l:GW W.heap.size W){c f:Value}{s:aP}(h:sW s){ids:List Dg}(j:RD (Go.Bb.cellsIn W) W c (.sl 37 (s.map b8)))(k:RD (Go.Bb.cellsIn W) W f (.sl 32 (ids.map aq))):
  Calls Tryz.prog 5 #[c,f] W fun e g=>e= .returned (.bool true)∧Below W.heap.size W g:=by
 refine((kk s h ids).calls (Go.Bb.cellsIn W) W [c,f] rfl (fun i v d a b=> ?_) l).mono fun e q o=> ?_
 ·match i with
  |0=>simp at a b;subst a;subst b;exact j
  |1=>simp at a b;subst a;subst b;exact k
  |i+2=>simp at a
 ·obtain⟨v,n,p,m⟩:=o;have:v= .bool true:=by cases p;rfl
  subst this;exact⟨n,m⟩
end Go.Proofs.Q
namespace Go.Proofs.YtfoljakejdgfcaaGreatDoor
open Go.ChangeShapes Go.WideShapes Go.ChangeAt Go.RowKit Go.Proofs.Lg Go.Bb
open Go.Proofs.Q (Fb qD L9 Da unrecordPurges_walk b8 aq)
theorem own:ownKnob Tryz.prog.godebug=none:=by kernel_rfl
theorem laidOut:laidOutB Tryz.prog=true:=by kernel_rfl
theorem Pp{l:List (String×DataW Unit)}{w:World}(i:l=Rows.unrecordPurgesRow.laid)(h:laidMetH Tryz.prog l w):GW w.heap.size w:=by
 have b:=h.filter fun x=>x.1== "internal/strconv.uint64pow10";rw[i]at b;have f:laidMet Tryz.prog [("internal/strconv.uint64pow10",Lib.tabData .u64 vN)] w:=by
  rw[MakeChecks.laidMetH_plain _ _ _ (by kernel_rfl)]at b;exact b
 have a:Lib.TabIs Tryz.prog w "internal/strconv.uint64pow10" .u64 vN:=Lib.tabIs_of_head (g:=1) (by kernel_rfl) (by kernel_rfl) Tryz.underlying305 Tryz.underlying207 (by kernel_rfl) (by kernel_rfl) f;intro p d;simp only[Dp,pw]at d;subst d;unfold Lib.TabIs World.var? at a
 rw[show Tryz.prog.globalNamed "internal/strconv.uint64pow10"=some 1 by kernel_rfl,dF]at a;dsimp only;split at a
 ·rename_i j t e c;obtain rfl:=az a;exact⟨(fK.1 c).1,t,e,c⟩
 ·cases a
set_option maxRecDepth 100000 in
theorem unrecordPurges_lifted(os:Os)(started:os.Started)(H:Type)(enc:TypeId×Value→H):
  ReturnsInHanded {} Tryz.checked os 5 .any (fun w a=>(Rows.unrecordPurgesSpec.pre enc Tryz.prog Tryz.f5 Rows.unrecordPurgesRow.domain false w a∧laidMetH Tryz.prog Rows.unrecordPurgesRow.laid w)∧sizedMet enc Tryz.prog Tryz.f5 (OpenSpec.ofChange Rows.unrecordPurgesSpec) false w a)
   (Rows.unrecordPurgesSpec.post enc Tryz.prog Tryz.f5 false true false false):=by
 refine returnsInHanded_of_change_and (C:=Tryz.checked) (X:=fun w _=>laidMetH Tryz.prog Rows.unrecordPurgesRow.laid w) (fun _ _ _ Q h=>h.of_heap Q) own started (by kernel_rfl) Tryz.func5
  (ChangeSpec.witness_shaped (enc:=enc) (C:=Tryz.checked) (os:=os) (X:=fun w _=>laidMetH Tryz.prog Rows.unrecordPurgesRow.laid w) false (World.laidAll Tryz.prog os Rows.unrecordPurgesRow.laid) #[.slice none 0 0,.slice none 0 0] 8 (World.laidAll_os _ _ _)
   (World.shaped_of_ZipB (by kernel_rfl) (by kernel_rfl)) (by kernel_rfl) (by kernel_rfl) (by kernel_rfl)
   (by rw[MakeChecks.laidMetH_plain _ _ _ (by kernel_rfl)];exact laidMet_laidAll _ (by kernel_rfl) (by kernel_rfl))) ?_
 intro W f a I gs before c B hc _ N _;have b: ∀(j:Nat) t v,Tryz.f5.params[j]?=some t→a[j]?=some v→Value.okWide Tryz.prog W .any f t v:=c;have l:=B;obtain⟨p,q,g,O,rfl,_,_⟩:=B;have A:DataW.TrodAll enc Tryz.prog W 0 (fun _=>true) true Tryz.f5.params.toList a.toList I p:=g;rw[Tryz.params5]at A b
 obtain⟨F,a0,d0,J,U,q0,i,rfl,rfl,y,Y⟩:=trodAll_cons A;obtain⟨G,a1,d1,K,V,q1,k,rfl,rfl,z,Z⟩:=trodAll_cons Y;obtain⟨rfl,rfl,rfl⟩:=trodAll_nil Z;obtain rfl:a= #[F,G]:=by cases a;simp_all
 obtain⟨rfl,rfl⟩:=trodVars_none O;have D:=y;have E:=z;have r: ∀x∈U,x.block<W.heap.size:=by obtain⟨m,o⟩:=D;exact DataW.trod_lt m _ _ _ o
 have u: ∀x∈V,x.block<W.heap.size:=by obtain⟨m,o⟩:=E;exact DataW.trod_lt m _ _ _ o
 obtain⟨x0,L,S⟩:=KC (n:=12) (sh:=Fb) Tryz.underlying23 (by kernel_rfl) (b 0 23 F rfl rfl) y;obtain⟨s,rfl,R⟩:=L9 S;obtain⟨x1,M,T⟩:=KC (n:=12) (sh:= .sl 32 qD) Tryz.underlying26 (by kernel_rfl) (b 1 26 G rfl rfl) z;obtain⟨ids,rfl,_⟩:=Da T;clear g c;refine(unrecordPurges_walk (Pp rfl N) R L M).mono fun e W' ⟨P,d⟩=> ?_;subst P
 exact⟨_,rfl,_,_,_,[],_,[],l,trodAll_mk1 (shut_bool Tryz.underlying4 _),(trodAll_cons_mk (Below.trod laidOut (by kernel_rfl) (of_decide_eq_true (by kernel_rfl)) D d r) (trodAll_cons_mk (Below.trod laidOut (by kernel_rfl) (of_decide_eq_true (by kernel_rfl)) E d u) trodAll_mk0)),rfl,d.frame _,fun h=>by cases h⟩
end Go.Proofs.YtfoljakejdgfcaaGreatDoor
