/- Lemmas. -/
import Derived.Test.YtikhfhjohjfamaaGreatDoorPAA
import Derived.OrdersIn
import Derived.Sort.LoopGhostIn
import Derived.DeepKeys
set_option linter.unusedVariables false
set_option linter.unusedSimpArgs false
set_option maxRecDepth 100000
namespace Go.Bb
open Go Go.RowKit Go.Ab
def dt(fr:Fr):Option Nat->AV->Fr
 |none,_=>fr
 |some t,x=>(t,x)::fr
def nJ:AV:= .d (.sc undef)
def FR(k:aP)(w:World)(a:Act)(fr:Fr):Prop:= ∀t x,look fr t=some x->RA k w (a.tmps.getD t undef) x
theorem FR.mono{k k':aP}{w w':World}(b:Mono k w k' w'){a:Act}{fr:Fr}(h:FR k w a fr):FR k' w' a fr:=λt x c=>(h t x c).mono b
theorem uv(a:Act)(d:Nat)(v:Value)(b:d<a.tmps.size)(t:Nat):(a.put (some d) v).tmps.getD t undef=if d=t then v else a.tmps.getD t undef:=by
 simp only[Act.put];by_cases h:d=t
 .subst h;simp[b]
 .rw[if_neg h];simp[Array.getElem?_setIfInBounds_ne h]
theorem FR.put{k:aP}{w:World}{a:Act}{fr:Fr}(h:FR k w a fr){v:Value}{x:AV}(f:RA k w v x){dst:Option Nat}(c: ∀d,dst=some d->d<a.tmps.size):FR k w (a.put dst v) (dt fr dst x):=by
 cases dst with
 |none=>exact h
 |some d=>
  intro t y b;rw[uv a d v (c d rfl) t];unfold dt look at b;split at b
  .rename_i e;rw[if_pos e];obtain rfl:=aJ b;exact f
  .rename_i e;rw[if_neg e];exact h t y b
theorem ov(a:Act)(dst:Option Nat)(v:Value):(a.put dst v).tmps.size=a.tmps.size:=by cases dst<;>simp[Act.put]
theorem rE(a:Act)(dst:Option Nat)(v:Value):(a.put dst v).defers=a.defers:=by cases dst<;>rfl
def jX(k:aP)(w:World)(a:Act)(o:Oper)(fr:Fr):Prop:= ∀t x,Operand.tmp t∈o.op.operands->look fr t=some x->RA k w (a.tmps.getD t undef) x
theorem FR.ops{k:aP}{w:World}{a:Act}{fr:Fr}(h:FR k w a fr)(o:Oper):jX k w a o fr:=λt x _ b=>h t x b
def FW:Option Nat->Fence
 |none=>Fence.wide
 |some l=>Fence.wide.inRound l
theorem tQ(r:Option Nat)(f:FuncId):(FW r).fn f:=by cases r<;>trivial
theorem xy(r:Option Nat):(FW r).round=r:=by cases r<;>rfl
theorem Db(r:Option Nat):(FW r).depth=none:=by cases r<;>rfl
def fj(o:Oper):Bool:=match o.op with
 | .defer _=>false
 |_=>true
theorem Cw{o:Oper}(h:fj o=true)(r:Option Nat)(ρ:Operand->Value):o.semAt r ρ=execOp ρ o:=
 Oper.semAt_eq r ρ o λc hc=>by unfold fj at h;rw[hc]at h;cases h
def dY(P:Program)(o:Oper)(a:Act)(w:World)(Q:Value->World->Prop):Prop:=
 fj o=true-> ∀(r:Option Nat) (b:Exit->Act->World->Prop),o.wpIn (FW r) 0 P a w (λc w'=> ∃v,c=a.put o.dst v/\Q v w') b
def bA(b:Nat->Code->CC->Prop)(P:Program)(o:Oper)(fr:Fr)(s:List aa)(d:AV)(c:List aa):Prop:=
 ∀(B:Nat) (k:aP) (a:Act) (w:World),jX k w a o fr->St b B k s w->dY P o a w λv w'=> ∃k',RA k' w' v d/\Ext B k w k' w'/\St b B k' c w'
def gd(ops:Array Oper)(fr:Fr)(o:Oper):Option Bool:=
 match o.guard with
 |none=>some true
 |some (j,want)=>match(ops[j]?).bind (·.dst)with
  |none=>some false
  |some t=>match look fr t with
   |some (.d (.sc (.bool b)))=>some (b==want)
   |some (.d (.sc (.tuple _)))=>some false
   |_=>none
def Ek(ops:Array Oper)(o:Oper):Option Nat:=match o.guard with
 |none=>none
 |some (j,_)=>(ops[j]?).bind (·.dst)
theorem Bn{ops:Array Oper}{fr:Fr}{o:Oper}{b:Bool}(h:gd ops fr o=some b){k:aP}{w:World}{a:Act}(i: ∀t x,Ek ops o=some t->look fr t=some x->RA k w (a.tmps.getD t undef) x):
  Region.wanted o (yielded ops a.tmps)=b:=by
 unfold gd at h;unfold Region.wanted;unfold Ek at i;split at h
 .rename_i hg;rw[hg];exact aJ h
 .rename_i j g hg;simp only[hg]at i⊢;split at h
  .rename_i d;unfold yielded;rw[d];obtain rfl:=aJ h;rfl
  .rename_i t d;unfold yielded;rw[d];simp only[eE];split at h
   .rename_i m n;have:=i t _ d n;have f:RD k.I w (a.tmps.getD t undef) (.sc (.bool m)):=this.d_inv;generalize c:a.tmps.getD t undef=u at f;cases f;have:a.tmps[t]?=some (.bool m):=by
     rw[rX]at c;cases l:a.tmps[t]? with
     |none=>simp[l,undef]at c
     |some y=>simp[l]at c;rw[c]
    rw[this];obtain rfl:=aJ h;cases m<;>cases g<;>rfl
   .rename_i vs n;have:=i t _ d n;have f:RD k.I w (a.tmps.getD t undef) (.sc (.tuple vs)):=this.d_inv;generalize c:a.tmps.getD t undef=u at f;cases f;have:a.tmps[t]?=none\/a.tmps[t]?=some (.tuple vs):=by
     rw[rX]at c;cases l:a.tmps[t]? with
     |none=>exact .inl rfl
     |some y=>simp[l]at c;right;rw[c]
    obtain rfl:=aJ h;rcases this with e|e<;>rw[e]<;>rfl
   .cases h
def gx(s s2:List aa):Prop:= ∀id:Nat,id<s.length->id<s2.length->s2[id]?=s[id]? \/s2[id]?=some .hole
theorem gx.refl(s:List aa):gx s s:=λ_ _ _=> .inl rfl
def pC(b:Nat)(s s2:List aa):Prop:=b<s.length->b<s2.length->s2[b]?=s[b]? \/s2[b]?=some .hole
theorem pC.refl(b:Nat)(s:List aa):pC b s s:=λ_ _=> .inl rfl
theorem gx.at{s s2:List aa}(h:gx s s2)(b:Nat):pC b s s2:=λa c=>h b a c
def tZ(b:Nat)(s a:List aa):Prop:=a.length=s.length/\ ∀id:Nat,id≠b->a[id]?=s[id]?
def e8(x:Nat):Bool:=x==2||x==3||(decide (5<=x)&&x % 2==1)
def fN(x:Nat):Bool:=x==2||(decide (5<=x)&&x % 2==1)
def ny(x:Nat):Bool:=x==1||(decide (4<=x)&&x % 2==0)
theorem JI{x:Nat}(h:e8 x=true):x=2\/x=3\/ ∃b,x=5+2*b:=by
 unfold e8 at h;simp only[jF,dW,beq_iff_eq,decide_eq_true_eq]at h;rcases h with(h|h)|⟨h,h2⟩
 .exact .inl h
 .exact .inr (.inl h)
 .exact .inr (.inr ⟨(x-5)/2,by omega⟩)
theorem Qt(x:Nat):x=0\/x=1\/(∃b,x=4+2*b)\/e8 x=true:=by
 by_cases h:e8 x=true
 .exact .inr (.inr (.inr h))
 .unfold e8 at h;simp only[jF,dW,beq_iff_eq,decide_eq_true_eq]at h;by_cases h0:x=0
  .exact .inl h0
  .by_cases a:x=1
   .exact .inr (.inl a)
   .exact .inr (.inr (.inl ⟨(x-4)/2,by omega⟩))
inductive iJ(LL:Nat->Code->CC->Prop)(P:Program)(ops:Array Oper):List Oper->Fr->List aa->List Nat->Fr->List aa->Prop
 |nil (fr:Fr) (s:List aa):iJ LL P ops [] fr s [] fr s
 |skip (o:Oper) (rest:List Oper) (fr:Fr) (s:List aa) (fl:List Nat) (fr':Fr) (s':List aa):gd ops fr o=some false->iJ LL P ops rest (dt fr o.dst nJ) s fl fr' s'->iJ LL P ops (o::rest) fr s (0::fl) fr' s'
 |free (o:Oper) (rest:List Oper) (fr:Fr) (s:List aa) (d:AV) (fl:List Nat) (fr':Fr) (s':List aa):gd ops fr o=some true->(∀s,bA LL P o fr s d s)->iJ LL P ops rest (dt fr o.dst d) s fl fr' s'->iJ LL P ops (o::rest) fr s (0::fl) fr' s'
 |reads (o:Oper) (rest:List Oper) (fr:Fr) (s:List aa) (d:AV) (fl:List Nat) (fr':Fr) (s':List aa):gd ops fr o=some true->(∀s2,gx s s2->bA LL P o fr s2 d s2)->iJ LL P ops rest (dt fr o.dst d) s fl fr' s'->iJ LL P ops (o::rest) fr s (1::fl) fr' s'
 |readsAt (b:Nat) (o:Oper) (rest:List Oper) (fr:Fr) (s:List aa) (d:AV) (fl:List Nat) (fr':Fr) (s':List aa):gd ops fr o=some true->(∀s2,pC b s s2->bA LL P o fr s2 d s2)->iJ LL P ops rest (dt fr o.dst d) s fl fr' s'->iJ LL P ops (o::rest) fr s ((4+2*b)::fl) fr' s'
 |effAt (b:Nat) (o:Oper) (rest:List Oper) (fr:Fr) (s:List aa) (d:AV) (s1:List aa) (fl:List Nat) (fr':Fr) (s':List aa):gd ops fr o=some true->bA LL P o fr s d s1->tZ b s s1->iJ LL P ops rest (dt fr o.dst d) s1 fl fr' s'->iJ LL P ops (o::rest) fr s ((5+2*b)::fl) fr' s'
 |make (o:Oper) (rest:List Oper) (fr:Fr) (s:List aa) (d:AV) (x:List aa) (fl:List Nat) (fr':Fr) (s':List aa):gd ops fr o=some true->(∀s2,gx s s2->iy s2 s.length x.length->bA LL P o fr s2 d (fill s2 s.length x))->iJ LL P ops rest (dt fr o.dst d) (s++x) fl fr' s'->iJ LL P ops (o::rest) fr s (3::fl) fr' s'
 |eff (o:Oper) (rest:List Oper) (fr:Fr) (s:List aa) (d:AV) (s1:List aa) (fl:List Nat) (fr':Fr) (s':List aa):gd ops fr o=some true->bA LL P o fr s d s1->iJ LL P ops rest (dt fr o.dst d) s1 fl fr' s'->iJ LL P ops (o::rest) fr s (2::fl) fr' s'
def se(b:Nat->Code->CC->Prop)(B N:Nat)(D:List Deferred)(k:aP)(w:World)(Q:Exit->Fr->List aa->Prop)(e:Exit)(a:Act)(w':World):Prop:=
 ∃fr s k',Q e fr s/\a.tmps.size=N/\a.defers=D/\Ext B k w k' w'/\FR k' w' a fr/\St b B k' s w'
theorem RA.undf{k:aP}{w:World}:RA k w undef nJ:= .d (RD.sc undef)
structure oP(LL:Nat->Code->CC->Prop)(P:Program)(ops:Array Oper)(frs:Nat->Fr)(ss:Nat->List aa)(ds:Nat->AV)(wt:Nat->Bool)(fl:Nat->Nat):Prop where
 guard: ∀(i:Nat) (o:Oper),ops[i]?=some o->gd ops (frs i) o=some (wt i)
 next: ∀(i:Nat) (o:Oper),ops[i]?=some o->frs (i+1)=dt (frs i) o.dst (ds i)
 skip: ∀(i:Nat) (o:Oper),ops[i]?=some o->wt i=false->ds i=nJ
 free: ∀(i:Nat) (o:Oper),ops[i]?=some o->wt i=true->fl i=0-> ∀s,bA LL P o (frs i) s (ds i) s
 step: ∀(i:Nat) (o:Oper),ops[i]?=some o->wt i=true->bA LL P o (frs i) (ss i) (ds i) (ss (i+1))
 reads: ∀(i:Nat) (o:Oper),ops[i]?=some o->wt i=true->fl i=1-> ∀s2,gx (ss i) s2->bA LL P o (frs i) s2 (ds i) s2
 readsAt: ∀(b i:Nat) (o:Oper),ops[i]?=some o->wt i=true->fl i=4+2*b-> ∀s2,pC b (ss i) s2->bA LL P o (frs i) s2 (ds i) s2
 make: ∀(i:Nat) (o:Oper),ops[i]?=some o->fl i=3-> ∃x,ss (i+1)=ss i++x/\ ∀s2,gx (ss i) s2->iy s2 (ss i).length x.length->bA LL P o (frs i) s2 (ds i) (fill s2 (ss i).length x)
 setAt: ∀(b i:Nat),i<ops.size->fl i=5+2*b->tZ b (ss i) (ss (i+1))
 still: ∀(i:Nat),i<ops.size->(e8 (fl i)=false\/wt i=false)->ss (i+1)=ss i
 off: ∀(i:Nat),wt i=false->fl i=0
theorem Zs{y:Nat->Code->CC->Prop}{P:Program}{ops:Array Oper}: ∀{l:List Oper} {fr:Fr} {s:List aa} {n:List Nat} {fr':Fr} {z:List aa},iJ y P ops l fr s n fr' z->
  ∃(a:Nat->Fr) (e:Nat->List aa) (ds:Nat->AV) (j:Nat->Bool),a 0=fr/\e 0=s/\a l.length=fr'/\e l.length=z/\n.length=l.length/\
   (∀(i:Nat) (o:Oper),l[i]?=some o->gd ops (a i) o=some (j i)/\a (i+1)=dt (a i) o.dst (ds i)/\(j i=false->ds i=nJ)/\(j i=true->n.getD i 0=0-> ∀s,bA y P o (a i) s (ds i) s)/\
    (j i=true->bA y P o (a i) (e i) (ds i) (e (i+1)))/\((e8 (n.getD i 0)=false\/j i=false)->e (i+1)=e i)/\
    (j i=true->n.getD i 0=1-> ∀s2,gx (e i) s2->bA y P o (a i) s2 (ds i) s2)/\(n.getD i 0=3-> ∃x,e (i+1)=e i++x/\ ∀s2,gx (e i) s2->iy s2 (e i).length x.length->bA y P o (a i) s2 (ds i) (fill s2 (e i).length x))/\
    (∀b,j i=true->n.getD i 0=4+2*b-> ∀s2,pC b (e i) s2->bA y P o (a i) s2 (ds i) s2)/\(∀b,n.getD i 0=5+2*b->tZ b (e i) (e (i+1))))/\ ∀i,j i=false->n.getD i 0=0:=by
 intro l fr s n fr' z h
 induction h with
 |nil fr s=>exact⟨λ_=>fr,λ_=>s,λ_=>nJ,λ_=>true,rfl,rfl,rfl,rfl,rfl,by simp,by simp⟩
 |skip o rest fr s n fr' z hg _ w=>
  obtain⟨a,e,ds,j,p,m,q,r,t,u,v⟩:=w;refine⟨λi=>if i=0 then fr else a (i-1),λi=>if i=0 then s else e (i-1),λi=>if i=0 then nJ else ds (i-1),λi=>if i=0 then false else j (i-1),rfl,rfl,by simpa using q,by simpa using r,by simp[t],λi o' g=> ?_,λi hi=> ?_⟩
  .cases i with
   |zero=>
    simp at g;subst g;refine⟨hg,?_,?_,?_,?_,?_,?_,?_,?_,?_⟩
    .show a 0=dt fr o.dst nJ;exact p
    .exact λ_=>rfl
    .exact λh=>(by cases h)
    .exact λh=>(by cases h)
    .exact λ_=>(show e 0=s from m)
    .exact λh=>(by cases h)
    .exact λh=>(by cases h)
    .exact λ_ h=>(by cases h)
    .exact λb h=>(by have k:(0:Nat)=5+2*b:=h;omega)
   |succ i=>simpa using u i o' (by simpa using g)
  .cases i with
   |zero=>rfl
   |succ i=>simpa using v i (by simpa using hi)
 |free o rest fr s d n fr' z hg f _ w=>
  obtain⟨a,e,ds,j,p,m,q,r,t,u,v⟩:=w;refine⟨λi=>if i=0 then fr else a (i-1),λi=>if i=0 then s else e (i-1),λi=>if i=0 then d else ds (i-1),λi=>if i=0 then true else j (i-1),rfl,rfl,by simpa using q,by simpa using r,by simp[t],λi o' g=> ?_,λi hi=> ?_⟩
  .cases i with
   |zero=>
    simp at g;subst g;refine⟨hg,?_,?_,?_,?_,?_,?_,?_,?_,?_⟩
    .show a 0=dt fr o.dst d;exact p
    .exact λh=>(by cases h)
    .exact λ_ _=>f
    .intro _;show bA y P o fr s d (e 0);rw[m];exact f s
    .exact λ_=>(show e 0=s from m)
    .exact λ_ h=>(by cases h)
    .exact λh=>(by cases h)
    .exact λb _ h=>(by have k:(0:Nat)=4+2*b:=h;omega)
    .exact λb h=>(by have k:(0:Nat)=5+2*b:=h;omega)
   |succ i=>simpa using u i o' (by simpa using g)
  .cases i with
   |zero=>simp at hi
   |succ i=>simpa using v i (by simpa using hi)
 |reads o rest fr s d n fr' z hg f _ w=>
  obtain⟨a,e,ds,j,p,m,q,r,t,u,v⟩:=w;refine⟨λi=>if i=0 then fr else a (i-1),λi=>if i=0 then s else e (i-1),λi=>if i=0 then d else ds (i-1),λi=>if i=0 then true else j (i-1),rfl,rfl,by simpa using q,by simpa using r,by simp[t],λi o' g=> ?_,λi hi=> ?_⟩
  .cases i with
   |zero=>
    simp at g;subst g;refine⟨hg,?_,?_,?_,?_,?_,?_,?_,?_,?_⟩
    .show a 0=dt fr o.dst d;exact p
    .exact λh=>(by cases h)
    .exact λ_ h=>(by cases h)
    .intro _;show bA y P o fr s d (e 0);rw[m];exact f s (gx.refl s)
    .exact λ_=>(show e 0=s from m)
    .exact λ_ _=>f
    .exact λh=>(by cases h)
    .exact λb _ h=>(by have k:(1:Nat)=4+2*b:=h;omega)
    .exact λb h=>(by have k:(1:Nat)=5+2*b:=h;omega)
   |succ i=>simpa using u i o' (by simpa using g)
  .cases i with
   |zero=>simp at hi
   |succ i=>simpa using v i (by simpa using hi)
 |readsAt c o rest fr s d n fr' z hg f _ w=>
  obtain⟨a,e,ds,j,p,m,q,r,t,u,v⟩:=w;refine⟨λi=>if i=0 then fr else a (i-1),λi=>if i=0 then s else e (i-1),λi=>if i=0 then d else ds (i-1),λi=>if i=0 then true else j (i-1),rfl,rfl,by simpa using q,by simpa using r,by simp[t],λi o' g=> ?_,λi hi=> ?_⟩
  .cases i with
   |zero=>
    simp at g;subst g;refine⟨hg,?_,?_,?_,?_,?_,?_,?_,?_,?_⟩
    .show a 0=dt fr o.dst d;exact p
    .exact λh=>(by cases h)
    .exact λ_ h=>(by have k:4+2*c=0:=h;omega)
    .intro _;show bA y P o fr s d (e 0);rw[m];exact f s (pC.refl c s)
    .exact λ_=>(show e 0=s from m)
    .exact λ_ h=>(by have k:4+2*c=1:=h;omega)
    .exact λh=>(by have k:4+2*c=3:=h;omega)
    .intro b _ h;have k:4+2*c=4+2*b:=h;obtain rfl:c=b:=by omega
     exact f
    .exact λb h=>(by have k:4+2*c=5+2*b:=h;omega)
   |succ i=>simpa using u i o' (by simpa using g)
  .cases i with
   |zero=>simp at hi
   |succ i=>simpa using v i (by simpa using hi)
 |effAt c o rest fr s d B n fr' z hg f A _ w=>
  obtain⟨a,e,ds,j,p,m,q,r,t,u,v⟩:=w;refine⟨λi=>if i=0 then fr else a (i-1),λi=>if i=0 then s else e (i-1),λi=>if i=0 then d else ds (i-1),λi=>if i=0 then true else j (i-1),rfl,rfl,by simpa using q,by simpa using r,by simp[t],λi o' g=> ?_,λi hi=> ?_⟩
  .cases i with
   |zero=>
    simp at g;subst g;refine⟨hg,?_,?_,?_,?_,?_,?_,?_,?_,?_⟩
    .show a 0=dt fr o.dst d;exact p
    .exact λh=>(by cases h)
    .exact λ_ h=>(by have k:5+2*c=0:=h;omega)
    .intro _;show bA y P o fr s d (e 0);rw[m];exact f
    .intro h;exfalso;rcases h with h|h
     .have k:e8 (5+2*c)=false:=h;unfold e8 at k;simp at k
     .cases h
    .exact λ_ h=>(by have k:5+2*c=1:=h;omega)
    .exact λh=>(by have k:5+2*c=3:=h;omega)
    .exact λb _ h=>(by have k:5+2*c=4+2*b:=h;omega)
    .intro b h;have k:5+2*c=5+2*b:=h;obtain rfl:c=b:=by omega
     show tZ c s (e 0);rw[m];exact A
   |succ i=>simpa using u i o' (by simpa using g)
  .cases i with
   |zero=>simp at hi
   |succ i=>simpa using v i (by simpa using hi)
 |make o rest fr s d x n fr' z hg f _ w=>
  obtain⟨a,e,ds,j,p,m,q,r,t,u,v⟩:=w;refine⟨λi=>if i=0 then fr else a (i-1),λi=>if i=0 then s else e (i-1),λi=>if i=0 then d else ds (i-1),λi=>if i=0 then true else j (i-1),rfl,rfl,by simpa using q,by simpa using r,by simp[t],λi o' g=> ?_,λi hi=> ?_⟩
  .cases i with
   |zero=>
    simp at g;subst g;refine⟨hg,?_,?_,?_,?_,?_,?_,?_,?_,?_⟩
    .show a 0=dt fr o.dst d;exact p
    .exact λh=>(by cases h)
    .exact λ_ h=>(by cases h)
    .intro _;show bA y P o fr s d (e 0);rw[m,<-um];exact f s (gx.refl s) (iy.end' s _)
    .exact λh=>(by rcases h with h|h<;>cases h)
    .exact λ_ h=>(by cases h)
    .exact λ_=>⟨x,m,f⟩
    .exact λb _ h=>(by have k:(3:Nat)=4+2*b:=h;omega)
    .exact λb h=>(by have k:(3:Nat)=5+2*b:=h;omega)
   |succ i=>simpa using u i o' (by simpa using g)
  .cases i with
   |zero=>simp at hi
   |succ i=>simpa using v i (by simpa using hi)
 |eff o rest fr s d B n fr' z hg f _ w=>
  obtain⟨a,e,ds,j,p,m,q,r,t,u,v⟩:=w;refine⟨λi=>if i=0 then fr else a (i-1),λi=>if i=0 then s else e (i-1),λi=>if i=0 then d else ds (i-1),λi=>if i=0 then true else j (i-1),rfl,rfl,by simpa using q,by simpa using r,by simp[t],λi o' g=> ?_,λi hi=> ?_⟩
  .cases i with
   |zero=>
    simp at g;subst g;refine⟨hg,?_,?_,?_,?_,?_,?_,?_,?_,?_⟩
    .show a 0=dt fr o.dst d;exact p
    .exact λh=>(by cases h)
    .exact λ_ h=>(by cases h)
    .intro _;show bA y P o fr s d (e 0);rw[m];exact f
    .exact λh=>(by rcases h with h|h<;>cases h)
    .exact λ_ h=>(by cases h)
    .exact λh=>(by cases h)
    .exact λb _ h=>(by have k:(2:Nat)=4+2*b:=h;omega)
    .exact λb h=>(by have k:(2:Nat)=5+2*b:=h;omega)
   |succ i=>simpa using u i o' (by simpa using g)
  .cases i with
   |zero=>simp at hi
   |succ i=>simpa using v i (by simpa using hi)
def vI(a:Array Nat)(i j:Nat):Bool:=(a.getD j 0).testBit i
def tmpsOf(o:Oper):List Nat:=o.op.operands.toList.filterMap fun| .tmp t=>some t|_=>none
def wU(ops:Array Oper)(o:Oper):List Nat:=tmpsOf o++(Ek ops o).toList
def ya(ops:Array Oper)(x y:Oper):Bool:=
 (match x.dst with|some t=>(wU ops y).contains t||y.dst==some t|none=>false)||(match y.dst with|some t=>(wU ops x).contains t|none=>false)
def fc(a b:Nat):Bool:=(e8 a&&e8 b&& !(a==3&&b==3))||(a==2&&ny b)||(ny a&&b==2)||(a==1&&fN b)||(fN a&&b==1)||(decide (4<=a)&&decide (4<=b)&&a/2==b/2&&a % 2 !=b % 2)
theorem yF{a:Nat}(h:fN a=true):e8 a=true/\(a==3)=false:=by
 unfold fN e8 at*;simp only[jF,dW,beq_iff_eq,decide_eq_true_eq,beq_eq_false_iff_ne]at h⊢;omega
theorem Bz{a:Nat}(h:e8 a=true)(c:a≠3):fN a=true:=by
 rcases JI h with e|e|⟨b,e⟩
 .subst e;rfl
 .exact absurd e c
 .subst e;unfold fN;simp
theorem B3{a b:Nat}(ha:e8 a=true)(hb:fN b=true):fc a b=true:=by unfold fc;obtain⟨c,d⟩:=yF hb;rw[ha,c,d];simp
theorem I3{a b:Nat}(ha:fN a=true)(hb:e8 b=true):fc a b=true:=by unfold fc;obtain⟨c,d⟩:=yF ha;rw[hb,c,d];simp
def uG(ops:Array Oper)(c:List Nat):Bool:=
 let a:=Region.before ops
 (List.range ops.size).all λj=>match ops[j]? with
  |none=>true
  |some b=>b.after.all (λe=> !Region.binds .any e||decide (e.on<j))&&
   (List.range ops.size).all λi=>
    (!vI a i j||b.after.any λe=>Region.binds .any e&&(e.on==i||vI a i e.on))&&
    match ops[i]? with
    |none=>true
    |some d=> !decide (i<j)||vI a i j||(!ya ops d b&& !fc (c.getD i 0) (c.getD j 0))
structure lu(ops:Array Oper)(an:Nat->Nat->Bool)(fl:Nat->Nat):Prop where
 back: ∀(j:Nat) (o:Oper),ops[j]?=some o-> ∀e∈o.after,Region.binds .any e=true->e.on<j
 up: ∀(i j:Nat) (o:Oper),ops[j]?=some o->i<ops.size->an i j=true-> ∃e∈o.after,Region.binds .any e=true/\(e.on=i\/an i e.on=true)
 names: ∀(i j:Nat) (oi oj:Oper),i<j->ops[i]?=some oi->ops[j]?=some oj->ya ops oi oj=true->an i j=true
 flags: ∀(i j:Nat),i<j->j<ops.size->fc (fl i) (fl j)=true->an i j=true
theorem Ui{ops:Array Oper}{l:List Nat}(h:uG ops l=true):lu ops (vI (Region.before ops)) (λi=>l.getD i 0):=by
 unfold uG at h;simp only[js,lp]at h;have b: ∀{j:Nat} {o:Oper},ops[j]?=some o->j<ops.size:=λg=>(gy.1 g).1;refine⟨λj o g e k hb=> ?_,λi j o g hi ha=> ?_,λi j p q f c d hc=> ?_,λi j f m n=> ?_⟩
 .have:=h j (b g);simp only[g,dW]at this;have:=rW.1 this.1 e k;simpa[hb]using this
 .have:=h j (b g);simp only[g,dW,js,lp]at this;have a:=(this.2 i hi).1;rw[ha]at a;simp only[Bool.not_true,Bool.false_or]at a;obtain⟨e,k,hb⟩:=Array.any_eq_true'.1 a;simp only[dW,jF,beq_iff_eq]at hb;exact⟨e,k,hb.1,hb.2⟩
 .have:=h j (b d);simp only[d,dW,js,lp]at this;have a:=(this.2 i (b c)).2;simp only[c,jF,rY,decide_eq_false_iff_not,dW,hc]at a;rcases a with(a|a)|a
  .exact absurd f a
  .exact a
  .exact absurd a.1 (by simp)
 .have d:ops[j]?=some ops[j]:=lZ m;have c:ops[i]?=some ops[i]:=lZ a8;have:=h j m;simp only[d,dW,js,lp]at this;have a:=(this.2 i a8).2;simp only[c,jF,rY,decide_eq_false_iff_not,dW]at a;rcases a with(a|a)|a
  .exact absurd f a
  .exact a
  .rw[n]at a;cases a.2
section
variable {LL:Nat->Code->CC->Prop} {D:List Deferred} {P:Program} {ops:Array Oper} {frs:Nat->Fr} {ss:Nat->List aa} {ds:Nat->AV} {wt:Nat->Bool} {fl:Nat->Nat} {an:Nat->Nat->Bool}
def kL(ops:Array Oper)(i:Nat):Option Nat:=(ops[i]?).bind (·.dst)
def mX(ops:Array Oper)(ds:Nat->AV)(fr0:Fr)(L:Array Bool)(t:Nat):Nat->Option AV
 |0=>look fr0 t
 |i+1=>if L.getD i false=true/\kL ops i=some t then some (ds i)else mX ops ds fr0 L t i
def zP(ops:Array Oper)(ds:Nat->AV)(fr0:Fr)(t:Nat):Nat->Option AV
 |0=>look fr0 t
 |i+1=>if kL ops i=some t then some (ds i)else zP ops ds fr0 t i
theorem K7(fr:Fr)(dst:Option Nat)(x:AV)(t:Nat):look (dt fr dst x) t=if dst=some t then some x else look fr t:=by
 cases dst with
 |none=>simp[dt]
 |some d=>simp[dt,look]
theorem EF(h:oP LL P ops frs ss ds wt fl)(t:Nat): ∀j,j<=ops.size->look (frs j) t=zP ops ds (frs 0) t j
 |0,_=>rfl
 |j+1,hj=>by
  have a:ops[j]?=some ops[j]:=lZ a8;rw[h.next j _ a,K7,zP,EF h t j a8];unfold kL;rw[a];rfl
theorem Gv(
    ds:Nat->AV) (fr0:Fr) (L:Array Bool) (t j:Nat): ∀m,j<=m->(∀i,j<=i->i<m->kL ops i=some t->L.getD i false=false)->mX ops ds fr0 L t m=mX ops ds fr0 L t j
 |0,hj,_=>by
    obtain rfl:j=0:=by omega
    rfl
 |m+1,hj,h=>by
  by_cases e:j=m+1
  .subst e;rfl
  .rw[mX,if_neg,Gv ds fr0 L t j m a8 λi a b=>h i a a8];rintro⟨a,b⟩;have:=h m a8 a8 b;rw[this]at a;cases a
theorem Gu(ds:Nat->AV)(fr0:Fr)(L:Array Bool)(t:Nat): ∀j,(∀i,i<j->kL ops i=some t->L.getD i false=true)->mX ops ds fr0 L t j=zP ops ds fr0 t j
 |0,_=>rfl
 |j+1,h=>by
  rw[mX,zP,Gu ds fr0 L t j λi hi=>h i a8];by_cases e:kL ops j=some t
  .rw[if_pos ⟨h j a8 e,e⟩,if_pos e]
  .rw[if_neg λa=>e a.2,if_neg e]
theorem Gw(ds:Nat->AV)(fr0:Fr)(L:Array Bool)(t j:Nat)(q:j<L.size): ∀m,
  ((j<m/\kL ops j=some t/\(∀i,j<i->i<m->kL ops i=some t->L.getD i false=false))->mX ops ds fr0 (L.setIfInBounds j true) t m=some (ds j))/\
  (¬(j<m/\kL ops j=some t/\(∀i,j<i->i<m->kL ops i=some t->L.getD i false=false))->mX ops ds fr0 (L.setIfInBounds j true) t m=mX ops ds fr0 L t m)
 |0=>⟨λh=>by omega,λ_=>rfl⟩
 |m+1=>by
  have a:(L.setIfInBounds j true).getD m false=if m=j then true else L.getD m false:=by
   by_cases e:m=j
   .subst e;simp[q]
   .rw[if_neg e];exact getD_set_ne false (λh=>e h.symm)
  obtain⟨o,f⟩:=Gw ds fr0 L t j q m;refine⟨λ⟨p,b,g⟩=> ?_,λr=> ?_⟩
  .by_cases e:m=j
   .subst e;simp only[mX];rw[a,if_pos rfl,if_pos ⟨rfl,b⟩]
   .have c:=o ⟨by omega,b,λi c l=>g i c a8⟩;simp only[mX];rw[a,if_neg e,if_neg,c];rintro⟨l,k⟩;have:=g m a8 a8 k;rw[l]at this;cases this
  .simp only[mX];rw[a];by_cases e:m=j
   .subst e;have d:kL ops m≠some t:=λh=>r ⟨by omega,h,λi p b=>by omega⟩;rw[if_neg λh=>d h.2,if_neg λh=>d h.2];exact f λh=>by omega
   .rw[if_neg e];by_cases hc:L.getD m false=true/\kL ops m=some t
    .rw[if_pos hc,if_pos hc]
    .rw[if_neg hc,if_neg hc];refine f λ⟨p,b,g⟩=>r ⟨by omega,b,λi c l k=> ?_⟩;by_cases n:i=m
     .subst n;cases s:L.getD i false with
      |false=>rfl
      |true=>exact absurd ⟨s,k⟩ hc
     .exact g i c a8 k
structure nO(ss:Nat->List aa)(fl:Nat->Nat)(L:Array Bool)(m1 m2:Nat)(s':List aa):Prop where
 len:s'.length=(ss m2).length
 mid: ∀p:Nat,s'[p]?=(ss m2)[p]? \/(s'[p]?=some .hole/\ ∃i,m1<=i/\i<m2/\fl i=3/\L.getD i false=false/\(ss i).length<=p/\p<(ss (i+1)).length)
 un: ∀i,m1<=i->i<m2->fl i=3->L.getD i false=false-> ∀p:Nat,(ss i).length<=p->p<(ss (i+1)).length->s'[p]?=some .hole
theorem nO.refl(a:Nat->List aa)(b:Nat->Nat)(L:Array Bool)(m:Nat):nO a b L m m (a m):=⟨rfl,λ_=> .inl rfl,λi c d=>by omega⟩
theorem nO.congr{m:Nat->List aa}{d:Nat->Nat}{L f:Array Bool}{j k:Nat}{l:List aa}(h:nO m d L j k l)(g: ∀i,d i=3->f.getD i false=L.getD i false):nO m d f j k l:=
 ⟨h.len,λp=>by
  rcases h.mid p with a|⟨a,i,e,b,c,h5,h6⟩
  .exact .inl a
  .exact .inr ⟨a,i,e,b,c,by rw[g i c];exact h5,h6⟩,λi a e b c=>h.un i a e b (by rw[<-g i b];exact c)⟩
def GS(e:Nat->Code->CC->Prop)(ops:Array Oper)(f:Nat->List aa)(b:Nat->Nat)(B:Nat)(L:Array Bool)(k:aP)(w:World):Prop:=
 ∃c a d,c<=a/\a<=ops.size/\(∀i,i<c->e8 (b i)=true->L.getD i false=true)/\(∀i,a<=i->i<ops.size->e8 (b i)=true->L.getD i false=false)/\
  (∀i,c<=i->i<a->fN (b i)=false)/\nO f b L c a d/\St e B k d w
structure A7(LL:Nat->Code->CC->Prop)(D:List Deferred)(ops:Array Oper)(ds:Nat->AV)(fr0:Fr)(ss:Nat->List aa)(fl:Nat->Nat)(an:Nat->Nat->Bool)(B N:Nat)(k0:aP)(w0:World)(L:Array Bool)(k:aP)(a:Act)(w:World):Prop where
 size:L.size=ops.size
 closed: ∀j,L.getD j false=true-> ∀i,i<ops.size->an i j=true->L.getD i false=true
 tmps:a.tmps.size=N
 defers:a.defers=D
 ext:Ext B k0 w0 k w
 slots: ∀t x,mX ops ds fr0 L t ops.size=some x->RA k w (a.tmps.getD t undef) x
 store:GS LL ops ss fl B L k w
theorem N3(h:oP LL P ops frs ss ds wt fl){i:Nat}(hi:i<ops.size)(a:fl i=3): ∃x,ss (i+1)=ss i++x:=by
 obtain⟨x,b,_⟩:=h.make i _ (lZ hi) a;exact⟨x,b⟩
theorem Gh(h:oP LL P ops frs ss ds wt fl): ∀(d m:Nat),m+d<=ops.size->(∀i,m<=i->i<m+d->e8 (fl i)=false)->ss (m+d)=ss m
 |0,_,_,_=>rfl
 |d+1,m,hm,hn=>by
  rw[<-lq,h.still (m+d) a8 (.inl (hn (m+d) a8 a8))];exact Gh h d m a8 (λi a b=>hn i a a8)
theorem N2(h:oP LL P ops frs ss ds wt fl): ∀(d m:Nat),m+d<=ops.size->(∀i,m<=i->i<m+d->e8 (fl i)=false\/fl i=3)-> ∃xs,ss (m+d)=ss m++xs
 |0,_,_,_=>⟨[],by simp⟩
 |d+1,m,hm,hn=>by
  obtain⟨xs,a⟩:=N2 h d m a8 (λi b e=>hn i b a8);rcases hn (m+d) a8 a8 with h4|h4
  .exact⟨xs,by rw[<-lq,h.still (m+d) a8 (.inl h4),a]⟩
  .obtain⟨x,c⟩:=N3 h (i:=m+d) a8 h4;exact⟨xs++x,by rw[<-lq,c,a,bk]⟩
theorem Gg(h:oP LL P ops frs ss ds wt fl)(b:Nat): ∀(d m:Nat),m+d<=ops.size->(∀i,m<=i->i<m+d->e8 (fl i)=false\/fl i=3\/ ∃c,c≠b/\fl i=5+2*c)->(ss m).length<=(ss (m+d)).length/\(b<(ss m).length->(ss (m+d))[b]?=(ss m)[b]?)
 |0,_,_,_=>⟨bg _,λ_=>rfl⟩
 |d+1,m,hm,hn=>by
  obtain⟨f,a⟩:=Gg h b d m a8 (λi f a=>hn i f a8);rw[<-lq];rcases hn (m+d) a8 a8 with h4|h4|⟨c,hc,h4⟩
  .rw[h.still (m+d) a8 (.inl h4)];exact⟨f,a⟩
  .obtain⟨x,g⟩:=N3 h (i:=m+d) a8 h4;rw[g];refine⟨by simp;omega,λhb=> ?_⟩;rw[fP a8];exact a hb
  .obtain⟨g,j⟩:=h.setAt c (m+d) a8 h4;exact⟨by omega,λhb=>(j b (λe=>hc e.symm)).trans (a hb)⟩
theorem tI(h:oP LL P ops frs ss ds wt fl){a b:Nat}(j:a<=b)(hb:b<=ops.size)(k: ∀i,a<=i->i<b->fN (fl i)=false): ∃xs,ss b=ss a++xs:=by
 obtain⟨d,rfl⟩: ∃d,b=a+d:=⟨b-a,by omega⟩
 refine N2 h d a hb λi c e=> ?_;cases g:e8 (fl i)with
 |false=>exact .inl rfl
 |true=>
  right;apply fX;intro f;have:=Bz g f;rw[k i c e]at this;cases this
theorem N1(h:oP LL P ops frs ss ds wt fl)(p:Nat): ∀(d a:Nat),a+d<=ops.size->(∀i,a<=i->i<a+d->fN (fl i)=false)->(ss a).length<=p->p<(ss (a+d)).length-> ∃i,a<=i/\i<a+d/\fl i=3/\(ss i).length<=p/\p<(ss (i+1)).length
 |0,a,_,_,h1,h2=>by rw[aB]at h2;omega
 |d+1,a,hd,hn,h1,h2=>by
  by_cases g:p<(ss (a+d)).length
  .obtain⟨i,e,l,f⟩:=N1 h p d a a8 (λi c k=>hn i c a8) h1 g;exact⟨i,e,by omega,f⟩
  .refine⟨a+d,by omega,by omega,?_,by omega,h2⟩;apply fX;intro j;have b:e8 (fl (a+d))=false:=by
    cases b:e8 (fl (a+d))with
    |false=>rfl
    |true=>have:=Bz b j;rw[hn (a+d) a8 a8]at this;cases this
   rw[<-lq,h.still (a+d) a8 (.inl b)]at h2;omega
theorem nO.grow(h:oP LL P ops frs ss ds wt fl){L:Array Bool}{y c f:Nat}{j:List aa}(w:nO ss fl L y c j)(E:y<=c)(v:c<=f)(z:f<=ops.size)(r: ∀i,c<=i->i<f->fN (fl i)=false)(H: ∀i,c<=i->i<f->fl i=3->L.getD i false=false):
  nO ss fl L y f (j++List.replicate ((ss f).length-(ss c).length) .hole):=by
 obtain⟨xs,n⟩:=tI h v z r;have J:(ss f).length=(ss c).length+xs.length:=by rw[n,aQ]
 have A:=w.len;have low: ∀p,p<j.length->(j++List.replicate ((ss f).length-(ss c).length) aa.hole)[p]?=j[p]? :=λp hp=>fP hp;have g: ∀p,j.length<=p->p<(ss f).length->(j++List.replicate ((ss f).length-(ss c).length) aa.hole)[p]?=some .hole:=λp u F=>by
  rw[iY u,pG,if_pos a8]
 refine⟨by simp;omega,λp=> ?_,λi u F k t p C D=> ?_⟩
 .by_cases hp:p<j.length
  .rw[low p hp];rcases w.mid p with e|⟨e,i,s,B,k⟩
   .left;rw[e,n,fP a8]
   .exact .inr ⟨e,i,s,by omega,k⟩
  .by_cases m:p<(ss f).length
   .obtain⟨d,G⟩: ∃d,f=c+d:=⟨f-c,by omega⟩
    obtain⟨i,s,B,k,t⟩:=N1 h p d c a8 (λi l o=>r i l a8) a8 (by rw[<-G];exact m);exact .inr ⟨g p a8 m,i,by omega,by omega,k,H i s a8 k,t⟩
   .left;rw[iO (by simp;omega),iO a8]
 .by_cases hi:i<c
  .have hp:=w.un i u hi k t p C D;rw[low p (aV.1 hp).1];exact hp
  .have l:(ss (i+1)).length<=(ss f).length:=by
    obtain⟨I,x⟩:=tI h (a:=i+1) (b:=f) a8 z (λq l o=>r q a8 o);rw[x,aQ];omega
   have o:(ss c).length<=(ss i).length:=by
    obtain⟨I,x⟩:=tI h (a:=c) (b:=i) a8 a8 (λq l o=>r q l a8);rw[x,aQ];omega
   exact g p a8 a8
theorem Yk{r:Option Nat}(S:oP LL P ops frs ss ds wt fl)(hO:lu ops an fl){B N:Nat}{k0:aP}{w0:World}(hN: ∀o∈ops,∀d,o.dst=some d->d<N)(f3: ∀o∈ops,fj o=true)
  {L:Array Bool} {k:aP} {a:Act} {w:World} (Z:A7 LL D ops ds (frs 0) ss fl an B N k0 w0 L k a w) {j:Nat} (hj:j∈Region.ready .any ops L) {Q:Exit->Act->World->Prop} {K:Act->World->Prop}
  (hK: ∀k' a' w',A7 LL D ops ds (frs 0) ss fl an B N k0 w0 (L.setIfInBounds j true) k' a' w'->K a' w'):wpOpIn (FW r) 0 P ops Q j K a w:=by
 obtain⟨d5,H,z,d0⟩:=mem_ready.1 hj;have a2:j<ops.size:=(gy.1 z).1;have a1:L.getD j false=false:=by
  have:j<L.size:=by rw[Z.size];exact a2
  simpa[this]using d5
 have b1: ∀i,i<ops.size->an i j=true->L.getD i false=true:=λi hi ha=>by
  obtain⟨e,T,hb,h⟩:=hO.up i j H z hi ha;have s:=d0 e T hb;rcases h with h|h
  .rw[<-h];exact s
  .exact Z.closed _ s i hi h
 have hafter: ∀i,i<ops.size->an j i=true->L.getD i false=false:=λi hi ha=>by
  cases hL:L.getD i false with
  |false=>rfl
  |true=>have:=Z.closed i hL j a2 ha;rw[a1]at this;cases this
 have U: ∀{i:Nat} {t:Nat},kL ops i=some t-> ∃oi,ops[i]?=some oi/\oi.dst=some t:=λh=>by
  unfold kL at h;obtain⟨oi,s,g⟩:=Ae.1 h;exact⟨oi,s,g⟩
 have e6: ∀t,t∈wU ops H->mX ops ds (frs 0) L t ops.size=look (frs j) t:=λt ht=>by
  rw[EF S t j a8];rw[Gv ds (frs 0) L t j ops.size a8 λi s g u=> ?_]
  .refine Gu ds (frs 0) L t j λi hi u=> ?_;obtain⟨oi,Y,C⟩:=U u;refine b1 i a8 (hO.names i j oi H hi Y z ?_);unfold ya;rw[C];simp[ht]
  .obtain⟨oi,Y,C⟩:=U u;by_cases A:i=j
   .subst A;exact a1
   .refine hafter i g (hO.names j i H oi a8 z Y ?_);unfold ya;rw[C];simp[ht]
 have b7: ∀t x,t∈wU ops H->look (frs j) t=some x->RA k w (a.tmps.getD t undef) x:=λt x ht E=>Z.slots t x (by rw[e6 t ht];exact E);have f1:=S.guard j H z;have c6:=Bn f1 (k:=k) (w:=w) (a:=a) λt x hg E=>b7 t x (by unfold wU;simp[hg]) E;have X:jX k w a H (frs j):=λt x ht E=>b7 t x (by
  unfold wU tmpsOf;refine List.mem_append_left _ (List.mem_filterMap.2 ⟨.tmp t,by simpa using ht,rfl⟩)) E
 have b5: ∀(v:Value) (k':aP) (w':World),RA k' w' v (ds j)->Ext B k w k' w'->GS LL ops ss fl B (L.setIfInBounds j true) k' w'->
   K (a.put H.dst v) w':=λv k' w' hv T hs=>by
  have b3:j<L.size:=by rw[Z.size];exact a2
  refine hK k' _ w' ⟨by simp[Z.size],λi hi m hm ha=> ?_,by rw[ov,Z.tmps],by rw[rE,Z.defers],Z.ext.trans T,λt x E=> ?_,hs⟩
  .by_cases G:m=j
   .subst G;simp[b3]
   .rw[getD_set_ne false (Ne.symm G)];by_cases A:i=j
    .subst A;exact b1 m hm ha
    .rw[getD_set_ne false (Ne.symm A)]at hi;exact Z.closed i hi m hm ha
  .by_cases hd:kL ops j=some t
   .rw[(Gw ds (frs 0) L t j b3 ops.size).1 ⟨a2,hd,λi s g u=> ?_⟩]at E
    .obtain rfl:=aJ E;obtain⟨o',Y,C⟩:=U hd;rw[z]at Y;obtain rfl:=aJ Y;rw[C,uv _ _ _ (by rw[Z.tmps];exact hN H (Array.mem_of_getElem? z) t C),if_pos rfl];exact hv
    .obtain⟨oi,Y,C⟩:=U u;obtain⟨o',h6,I⟩:=U hd;rw[z]at h6;obtain rfl:=aJ h6;refine hafter i g (hO.names j i H oi s z Y ?_);unfold ya;rw[I,C];simp
   .rw[(Gw ds (frs 0) L t j b3 ops.size).2 λh=>hd h.2.1]at E;have s:=(Z.slots t x E).mono T.mono;have:(a.put H.dst v).tmps.getD t undef=a.tmps.getD t undef:=by
     cases d2:H.dst with
     |none=>rfl
     |some d=>
      rw[uv _ _ _ (by rw[Z.tmps];exact hN H (Array.mem_of_getElem? z) d d2),if_neg];intro e;subst e;exact hd (by unfold kL;rw[z];exact d2)
    rw[this];exact s
 have a4: ∀i,e8 (fl i)=true->e8 (fl j)=false->(L.setIfInBounds j true).getD i false=L.getD i false:=λi s g=>getD_set_ne false (λe=>by subst e;rw[s]at g;cases g);obtain⟨m1,F,s',c1,hm,c0,V,a7,a3,a5⟩:=Z.store;have J: ∀i,i<j->fc (fl i) (fl j)=true->L.getD i false=true:=λi s g=>b1 i a8 (hO.flags i j s a2 g)
 have b0: ∀i,j<i->i<ops.size->fc (fl j) (fl i)=true->L.getD i false=false:=λi s g u=>hafter i g (hO.flags j i s g u);have c7: ∀i,¬e8 (fl i)=true->e8 (fl i)=false:=λi h=>by simpa using h
 have e3:e8 3=true:=rfl;have a6: ∀i,i<F->fN (fl i)=true->L.getD i false=true:=λi s g=>by
  by_cases u:i<m1
  .exact c0 i u (yF g).1
  .rw[a7 i a8 s]at g;cases g
 have c5:fN (fl j)=true->F<=j/\ss j=s':=λs=>by
  have G:F<=j:=by
   apply fX;intro b9;have:=a6 j a8 s;rw[a1]at this;cases this
  refine⟨G,?_⟩;obtain⟨d,rfl⟩: ∃d,j=F+d:=⟨j-F,by omega⟩
  rw[Gh S d F a8 (λi g u=>c7 i λY=>by
   have C:=V i g a8 Y;have I:=J i u (B3 Y s);rw[C]at I;cases I)]
  refine gW λp=> ?_;rcases a3.mid p with e|⟨_,i,g1,g2,g3,g4,_⟩
  .exact e.symm
  .have I:=J i a8 (B3 (by rw[g3];rfl) s);rw[g4]at I;cases I
 have c2: ∀p:Nat,p<s'.length->(ss F)[p]?=(ss j)[p]? ->s'[p]?=(ss j)[p]? \/s'[p]?=some .hole:=λp hp T=>by
  rcases a3.mid p with e|⟨e,_⟩
  .exact .inl (e.trans T)
  .exact .inr e
 have hagree:(∀x,fN x=true->fc x (fl j)=true/\fc (fl j) x=true)->gx (ss j) s':=λhc p b4 R=>by
  refine c2 p R ?_;rw[a3.len]at R;rcases Nat.le_total F j with G|G
  .obtain⟨xs,E⟩:=tI S G a8 (λi g u=>by
    cases hW:fN (fl i)with
    |false=>rfl
    |true=>
     have C:=V i g a8 (yF hW).1;have I:=J i u (hc _ hW).1;rw[C]at I;cases I)
   rw[E,fP R]
  .obtain⟨xs,E⟩:=tI S G hm (λi g u=>by
    cases hW:fN (fl i)with
    |false=>rfl
    |true=>
     have C:=a6 i u hW;by_cases A:i=j
     .subst A;rw[a1]at C;cases C
     .have I:=b0 i a8 a8 (hc _ hW).2;rw[I]at C;cases C)
   rw[E,fP b4]
 have hagreeAt: ∀b,fl j=4+2*b->pC b (ss j) s':=λb s b4 R=>by
  refine c2 b R ?_;rw[a3.len]at R;have d8: ∀x,e8 x=true->fc x (4+2*b)=false->fc (4+2*b) x=false->x=3\/ ∃c,c≠b/\x=5+2*c:=λx h u Y=>by
   rcases JI h with e|e|⟨c,e⟩
   .subst e;exfalso;have:ny (4+2*b)=true:=by unfold ny;simp
    unfold fc at u;rw[this]at u;simp at u
   .exact .inl e
   .refine .inr ⟨c,λf0=> ?_,e⟩;subst e;subst f0;have:fc (5+2*c) (4+2*c)=true:=by
     unfold fc;simp only[jF,dW,decide_eq_true_eq,beq_iff_eq,bne_iff_ne];right;omega
    rw[this]at u;cases u
  have e9: ∀x y,fc x y=fc y x:=λx y=>by
   unfold fc;have e1:(x/2==y/2)=(y/2==x/2):=by rw[l6];simp only[beq_iff_eq];exact eq_comm
   have e2:(x % 2 !=y % 2)=(y % 2 !=x % 2):=by rw[l6];simp only[bne_iff_ne];exact ne_comm
   rw[e1,e2,vm (e8 x),vm (decide (4<=x)),vm (ny x),vm (fN x),vm (x==2),vm (x==1),vm (x==3)];cases (e8 y&&e8 x&& !(y==3&&x==3))<;>cases (ny y&&x==2)<;>cases (y==2&&ny x)<;>cases (fN y&&x==1)<;>cases (y==1&&fN x)<;>rfl
  rcases Nat.le_total F j with G|G
  .obtain⟨d,rfl⟩: ∃d,j=F+d:=⟨j-F,by omega⟩
   obtain⟨g1,g2⟩:=Gg S b d F a8 (λi g u=>by
    by_cases hE:e8 (fl i)=true
    .refine .inr (fX λM=> ?_);have C:=V i g a8 hE;have hc:fc (fl i) (fl (F+d))=true:=by
      cases a0:fc (fl i) (fl (F+d))with
      |true=>rfl
      |false=>rw[s]at a0;exact absurd (d8 _ hE a0 (by rw[e9];exact a0)) M
     have I:=J i u hc;rw[C]at I;cases I
    .exact .inl (c7 i hE))
   exact(g2 R).symm
  .obtain⟨d,hd⟩: ∃d,F=j+d:=⟨F-j,by omega⟩
   obtain⟨g1,g2⟩:=Gg S b d j a8 (λi g u=>by
    by_cases hE:e8 (fl i)=true
    .refine .inr (fX λM=> ?_);have hW:fN (fl i)=true:=Bz hE λe=>M (.inl e);have C:=a6 i a8 hW;by_cases A:i=j
     .subst A;rw[a1]at C;cases C
     .have hc:fc (fl j) (fl i)=true:=by
       cases a0:fc (fl j) (fl i)with
       |true=>rfl
       |false=>rw[s]at a0;exact absurd (d8 _ hE (by rw[e9];exact a0) a0) M
      have I:=b0 i a8 a8 hc;rw[I]at C;cases C
    .exact .inl (c7 i hE))
   rw[hd];exact g2 b4
 unfold wpOpIn;rw[z];dsimp only;rw[c6];have rest:e8 (fl j)=false-> ∀(v:Value) (k':aP) (w':World),RA k' w' v (ds j)->Ext B k w k' w'->St LL B k' s' w'->K (a.put H.dst v) w':=λhn v k' w' hv T hs=>
  b5 v k' w' hv T ⟨m1,F,s',c1,hm,λi s g=>by rw[a4 i g hn];exact c0 i s g,λi s g u=>by rw[a4 i u hn];exact V i s g u,a7,a3.congr λi u=>a4 i (by rw[u];rfl) hn,hs⟩
 cases hw:wt j with
 |false=>
  rw[if_neg (by simp)];have hf:=S.off j hw;rw[S.skip j H z hw]at rest;refine⟨λf _=>tQ r f,?_⟩;exact rest (by rw[hf];rfl) _ k w RA.undf (Ext.refl B k w) a5
 |true=>
  rw[if_pos rfl];have W:=f3 H (Array.mem_of_getElem? z);rcases Qt (fl j)with h0|h1'|⟨b,h4'⟩|h2'
  .refine Oper.wpIn_mono (λa' w' hh=> ?_) (S.free j H z hw h0 s' B k a w X a5 W r _);obtain⟨v,rfl,k',hv,T,hs⟩:=hh;exact rest (by rw[h0];rfl) v k' w' hv T hs
  .refine Oper.wpIn_mono (λa' w' hh=> ?_) (S.reads j H z hw h1' s' (hagree λx E=>by rw[h1'];unfold fc;rw[E];simp) B k a w X a5 W r _);obtain⟨v,rfl,k',hv,T,hs⟩:=hh;exact rest (by rw[h1'];rfl) v k' w' hv T hs
  .refine Oper.wpIn_mono (λa' w' hh=> ?_) (S.readsAt b j H z hw h4' s' (hagreeAt b h4') B k a w X a5 W r _);obtain⟨v,rfl,k',hv,T,hs⟩:=hh;refine rest ?_ v k' w' hv T hs;rw[h4'];have e2:(4+2*b==2)=false:=by simp;omega
   have e3:(4+2*b==3)=false:=by simp;omega
   have e5:((4+2*b) % 2==1)=false:=by simp
   unfold e8;rw[e2,e3,e5];simp
  .by_cases M:fl j=3
   ·
    obtain⟨x,E,c3⟩:=S.make j H z M;have d3:m1<=j:=by
     apply fX;intro b9;have:=c0 j a8 h2';rw[a1]at this;cases this
    have d1: ∀x,fN x=true->fc x (fl j)=true/\fc (fl j) x=true:=λx E=>⟨I3 E h2',B3 h2' E⟩
    have c8:=hagree d1;obtain⟨m3,k3,s3,d4,d7,f6,O,f5,a9,b2,e4,c9⟩: ∃m3 k3 s3,j<m3/\m3<=ops.size/\F<=m3/\(∀i,m1<=i->i<m3->fN (fl i)=false)/\(∀i,m3<=i->i<ops.size->e8 (fl i)=true->L.getD i false=false)/\
      nO ss fl L m1 m3 s3/\Ext B k w k3 w/\St LL B k3 s3 w/\gx (ss j) s3:=by
     by_cases b9:j<F
     .exact⟨F,k,s',b9,hm,bg _,a7,V,a3,Ext.refl B k w,a5,c8⟩
     .have hn: ∀i,F<=i->i<j+1->fN (fl i)=false:=λi s g=>by
       cases hW:fN (fl i)with
       |false=>rfl
       |true=>
        by_cases A:i=j
        .subst A;rw[M]at hW;cases hW
        .have C:=V i s a8 (yF hW).1;have I:=J i a8 (d1 _ hW).1;rw[C]at I;cases I
      obtain⟨g1,g2⟩:=a5.holes ((ss (j+1)).length-(ss F).length);have d9:=a3.grow S c1 (by omega:F<=j+1) a8 hn λi s g u=>V i s a8 (by rw[u];rfl);refine⟨j+1,_,_,by omega,by omega,by omega,λi s g=> ?_,λi s g u=>V i a8 g u,d9,g1,g2,λp b4 R=> ?_⟩
      .by_cases hi:i<F
       .exact a7 i s hi
       .exact hn i a8 g
      .by_cases hp:p<s'.length
       .rw[fP hp];exact c8 p b4 hp
       .right;rw[iY a8,pG,if_pos];rw[aQ,gH]at R;omega
    obtain⟨ys,e7⟩:=tI S (a:=j+1) (b:=m3) a8 d7 (λi s g=>O i a8 g);have f8:(ss (j+1)).length=(ss j).length+x.length:=by rw[E,aQ]
    have f7:(ss m3).length=(ss (j+1)).length+ys.length:=by rw[e7,aQ]
    have d6:=a9.len;have b6:(ss j).length+x.length<=s3.length:=by omega
    have c4:jX k3 w a H (frs j):=λt x ht E=>(X t x ht E).mono b2.mono;refine Oper.wpIn_mono (λa' w' hh=> ?_) (c3 s3 c9 (.inl ⟨b6,λp s g=>a9.un j d3 d4 M a1 p s a8⟩) B k3 a w c4 e4 W r _);obtain⟨v,rfl,k',hv,T,hs⟩:=hh;refine b5 v k' w' hv (b2.trans T) ⟨m1,m3,_,by omega,d7,λi s g=> ?_,λi s g u=> ?_,O,?_,hs⟩
    .rw[getD_set_ne false a8];exact c0 i s g
    .rw[getD_set_ne false a8];exact f5 i s g u
    .have hg:=yq x (l:=s3) (n:=(ss j).length) a8;have hne: ∀i,i≠j->(L.setIfInBounds j true).getD i false=L.getD i false:=λi h=>getD_set_ne false (Ne.symm h);have f2:(L.setIfInBounds j true).getD j false=true:=by
      have b3:j<L.size:=by rw[Z.size];exact a2
      simp[b3]
     refine⟨by rw[Rx b6];exact d6,λp=> ?_,λi g1 g2 g3 g4 p g5 g6=> ?_⟩
     .rw[hg];have b8: ¬((ss j).length<=p/\p<(ss j).length+x.length)->s3[p]?=(ss m3)[p]? \/(s3[p]?=some .hole/\ ∃i,m1<=i/\i<m3/\fl i=3/\(L.setIfInBounds j true).getD i false=false/\(ss i).length<=p/\p<(ss (i+1)).length):=λhp=>by
       rcases a9.mid p with e|⟨e,i,g1,g2,g3,g4,g5,g6⟩
       .exact .inl e
       .have A:i≠j:=λe=>by subst e;omega
        exact .inr ⟨e,i,g1,g2,g3,by rw[hne i A];exact g4,g5,g6⟩
      by_cases s:p<(ss j).length
      .rw[if_pos s];exact b8 a8
      .rw[if_neg s];by_cases g:p<(ss j).length+x.length
       .rw[if_pos g];left;rw[e7,fP a8,E,iY a8]
       .rw[if_neg g];exact b8 a8
     .have A:i≠j:=λe=>by subst e;rw[f2]at g4;cases g4
      rw[hne i A]at g4;have u:=a9.un i g1 g2 g3 g4 p g5 g6;rw[hg];rcases Nat.lt_or_gt_of_ne A with b9|hgt
      .obtain⟨zs,hz⟩:=tI S (a:=i+1) (b:=j) a8 a8 (λq e1 e2=>O q a8 a8);have:(ss j).length=(ss (i+1)).length+zs.length:=by rw[hz,aQ]
       rw[if_pos a8];exact u
      .obtain⟨zs,hz⟩:=tI S (a:=j+1) (b:=i) a8 a8 (λq e1 e2=>O q a8 a8);have:(ss i).length=(ss (j+1)).length+zs.length:=by rw[hz,aQ]
       rw[if_neg a8,if_neg a8];exact u
   .have hW:=Bz h2' M;obtain⟨G,f4⟩:=c5 hW;have e0:St LL B k (ss j) w:=by rw[f4];exact a5
    refine Oper.wpIn_mono (λa' w' hh=> ?_) (S.step j H z hw B k a w X e0 W r _);obtain⟨v,rfl,k',hv,T,hs⟩:=hh;refine b5 v k' w' hv T ⟨j+1,j+1,ss (j+1),bg _,by omega,λi u Y=> ?_,λi u Y C=> ?_,λi s g=>by omega,nO.refl ..,hs⟩
    .by_cases A:i=j
     .subst A;simp[Z.size,a2]
     .rw[getD_set_ne false (Ne.symm A)];exact J i a8 (B3 Y hW)
    .rw[getD_set_ne false a8];exact b0 i a8 Y (I3 hW C)
theorem Ya(b:lu ops an fl){L:Array Bool}(f:L.size=ops.size)(h:Region.ready .any ops L=[]): ∀i,i<ops.size->L.getD i false=true:=by
 intro i
 induction i using Nat.strongRecOn with
 |_ i g=>
  intro hi;cases a:L.getD i false with
  |true=>rfl
  |false=>
   exfalso;have:i∈Region.ready .any ops L:=mem_ready.2 ⟨by
     have d:i<L.size:=by omega
     simpa[d]using a,ops[i],lZ hi,λe c hb=>by
    have:=b.back i ops[i] (lZ hi) e c hb;exact g e.on this a8⟩
   rw[h]at this;cases this
theorem Yj{r:Option Nat}(G:oP LL P ops frs ss ds wt fl)(S:lu ops an fl){B N:Nat}{A:aP}{E:World}(hN: ∀o∈ops,∀d,o.dst=some d->d<N)(J: ∀o∈ops,fj o=true){Q:Exit->Fr->List aa->Prop}(hQ:Q .normal (frs ops.size) (ss ops.size)):
  ∀(f:Nat) (L:Array Bool) (U:List Nat) (k:aP) (a:Act) (w:World),U.length=f->(∀i,i<ops.size->L.getD i false=false->i∈U)->A7 LL D ops ds (frs 0) ss fl an B N A E L k a w->wpAnyIn (FW r) 0 P .any ops (se LL B N D A E Q) f L a w:=by
 have u: ∀(L:Array Bool) (k:aP) (a:Act) (w:World),(∀i,i<ops.size->L.getD i false=true)->A7 LL D ops ds (frs 0) ss fl an B N A E L k a w->se LL B N D A E Q .normal a w:=λL k a w b g=>by
  obtain⟨m1,C,s',V,hm,a0,I,W,K,O⟩:=g.store;refine⟨_,_,k,hQ,g.tmps,g.defers,g.ext,λt x X=>g.slots t x ?_,?_⟩
  .rw[EF G t _ (bg _)]at X;rw[Gu ds (frs 0) L t ops.size λi hi _=>b i hi];exact X
  .obtain⟨d,hd⟩: ∃d,ops.size=C+d:=⟨ops.size-C,by omega⟩
   have M:s'=ss C:=gW λp=>by
    rcases K.mid p with e|⟨_,i,g1,g2,g3,g4,_⟩
    .exact e
    .have:=b i a8;rw[g4]at this;cases this
   rw[hd,Gh G d C a8 (λi Z h2=> ?_),<-M]
   .exact O
   .cases h3:e8 (fl i)with
    |false=>rfl
    |true=>
     have h4:=I i Z a8 h3;have R:=b i a8;rw[h4]at R;cases R
 intro f
 induction f with
 |zero=>
  intro L U k a w T n g;obtain rfl:U=[]:=gV T;have b: ∀i,i<ops.size->L.getD i false=true:=λi hi=>by
   cases v:L.getD i false with
   |true=>rfl
   |false=>exact absurd (n i hi v) (by simp)
  refine⟨?_,u L k a w b g⟩;cases hr:Region.ready .any ops L with
  |nil=>rfl
  |cons j l=>
   have y:j∈Region.ready .any ops L:=by rw[hr];simp
   obtain⟨c,oj,s,_⟩:=mem_ready.1 y;have m:j<ops.size:=(gy.1 s).1;have z:j<L.size:=by rw[g.size];exact m
   have:=b j m;simp[z]at this c;rw[this]at c;cases c
 |succ f ih=>
  intro L U k a w T n g;refine⟨λh=>u L k a w (Ya S g.size h) g,λj y=> ?_⟩;obtain⟨c,oj,s,_⟩:=mem_ready.1 y;have m:j<ops.size:=(gy.1 s).1;have z:j<L.size:=by rw[g.size];exact m
  have H:L.getD j false=false:=by simpa[z]using c
  refine Yk G S hN J g y λk' Y w' F=>ih _ (U.erase j) k' Y w' ?_ (λi hi v=> ?_) F
  .rw[List.length_erase_of_mem (n j m H)];omega
  .by_cases q:i=j
   .subst q;simp[z]at v
   .rw[getD_set_ne false (Ne.symm q)]at v;exact(List.mem_erase_of_ne q).2 (n i hi v)
end
end Go.Bb
namespace Go.Bb
open Go Go.RowKit Go.Ab
def qT(k:aP):Option Nat->Option Nat->Prop
 |none,none=>True
 |some id,some l=>k.own[id]?=some (.blk l)
 |_,_=>False
theorem qT.mono{k k':aP}{w w':World}(hm:Mono k w k' w'): ∀{rd r:Option Nat},qT k rd r->qT k' rd r
 |none,none,_=>trivial
 |some _,some _,h=>dM.blk' hm h
 |none,some _,h=>h.elim
 |some _,none,h=>h.elim
def mark(b:Nat):Deferred:={target:= .collected b,args:= #[]}
def Marks(w w':World)(k':aP)(D c:List Deferred):Prop:=
 ∃a:List Nat,c=a.map mark++D/\a.Nodup/\ ∀b∈a,w.heap.size<=b/\w'.heap[b]?=some (.deferred (some []))/\lA k' b
theorem Marks.refl(w w':World)(k':aP)(D:List Deferred):Marks w w' k' D D:=⟨[],rfl,List.nodup_nil,λ_ h=>by cases h⟩
theorem Marks.same{w w':World}{k':aP}{D a:List Deferred}(h:a=D):Marks w w' k' D a:=by subst h;exact Marks.refl _ _ _ _
theorem kP{w:World}{b:Nat}{o:Obj}(h:w.heap[b]?=some o):b<w.heap.size:=(gy.1 h).1
theorem Marks.trans{B:Nat}{w w' d:World}{k' a:aP}{D m f:List Deferred}(h:Marks w w' k' D m)(s:w.heap.size<=w'.heap.size)(p:Ext B k' w' a d)(g:Marks w' d a m f):Marks w d a D f:=by
 obtain⟨t,rfl,r,o⟩:=h;obtain⟨u,rfl,q,n⟩:=g;refine⟨u++t,by simp,List.nodup_append.2 ⟨q,r,λb hb c hc e=> ?_⟩,λb hb=> ?_⟩
 .subst e;have:=(n b hb).1;have:=kP (o b hc).2.1;omega
 .rcases fk.1 hb with hb|hb
  .obtain⟨l,j,k⟩:=n b hb;exact⟨ez s l,j,k⟩
  .obtain⟨l,j,k⟩:=o b hb;have i:=kP j;exact⟨l,(p.rest b i k).trans j,p.unowned i k⟩
section
variable {LL:Nat->Code->CC->Prop} {P:Program} {N:Nat} {rd:Option Nat}
def Ends(b:Nat->Code->CC->Prop)(N B:Nat)(k:aP)(D:List Deferred)(w:World)(e:Exit)(fr:Fr)(s:List aa)(c:Exit)(a:Act)(w':World):Prop:=
 c=e/\ ∃k',a.tmps.size=N/\Marks w w' k' D a.defers/\Ext B k w k' w'/\FR k' w' a fr/\St b B k' s w'
def jZ(b:Nat->Code->CC->Prop)(P:Program)(N:Nat)(rd:Option Nat)(c:Code)(fr:Fr)(s:List aa)(e:Exit)(fr':Fr)(d:List aa):Prop:=
 ∀(B:Nat) (k:aP) (a:Act) (w:World) (r:Option Nat),qT k rd r->a.tmps.size=N->FR k w a fr->St b B k s w->c.wpIn (FW r) 0 P (Ends b N B k a.defers w e fr' d) a w
def AW(b:Nat->Code->CC->Prop)(P:Program)(N:Nat)(rd:Option Nat)(c:Code)(Q:Exit->Fr->List aa->Prop)(fr:Fr)(s:List aa):Prop:=
 ∃e fr' a,Q e fr' a/\jZ b P N rd c fr s e fr' a
theorem Ends.trans{B:Nat}{k k':aP}{D a:List Deferred}{w w':World}{e:Exit}{fr:Fr}{s:List aa}{b:Exit}{a2:Act}{f:World}(hm:Marks w w' k' D a)(d:Ext B k w k' w')(h:Ends LL N B k' a w' e fr s b a2 f):Ends LL N B k D w e fr s b a2 f:=by
 obtain⟨h0,m,g,i,c,j,l⟩:=h;exact⟨h0,m,g,hm.trans d.below.size c i,d.trans c,j,l⟩
theorem jZ.frame{c:Code}{fr fr0:Fr}{s:List aa}{e:Exit}{fr':Fr}{b:List aa}(h:jZ LL P N rd c fr0 s e fr' b)(i: ∀t x,look fr0 t=some x->look fr t=some x):jZ LL P N rd c fr s e fr' b:=
 λB k a w r h0 d f g=>h B k a w r h0 d (λt x j=>f t x (i t x j)) g
theorem AW.frame{c:Code}{Q:Exit->Fr->List aa->Prop}{fr fr0:Fr}{s:List aa}(h:AW LL P N rd c Q fr0 s)(a: ∀t x,look fr0 t=some x->look fr t=some x):AW LL P N rd c Q fr s:=
 let⟨e,fr',f,b,d⟩:=h;⟨e,fr',f,b,d.frame a⟩
theorem AW.mono{c:Code}{Q a:Exit->Fr->List aa->Prop}{fr:Fr}{s:List aa}(h:AW LL P N rd c Q fr s)(b: ∀e fr s,Q e fr s->a e fr s):AW LL P N rd c a fr s:=
 let⟨e,fr',f,q,d⟩:=h;⟨e,fr',f,b _ _ _ q,d⟩
theorem Ends.now{B:Nat}{k:aP}{a:Act}{w:World}{e:Exit}{fr:Fr}{s:List aa}(b:a.tmps.size=N)(c:FR k w a fr)(d:St LL B k s w):Ends LL N B k a.defers w e fr s e a w:=
 ⟨rfl,k,b,Marks.refl _ _ _ _,Ext.refl _ _ _,c,d⟩
section
variable {fr:Fr} {s:List aa} {Q:Exit->Fr->List aa->Prop}
theorem AW.skip(h:Q .normal fr s):AW LL P N rd .skip Q fr s:=⟨_,_,_,h,λ_ _ _ _ _ _ a b c=>wpIn_skip (Ends.now a b c)⟩
theorem AW.label{l:Nat}(h:Q .normal fr s):AW LL P N rd (.label l) Q fr s:=⟨_,_,_,h,λ_ _ _ _ _ _ a b c=>wpIn_label (Ends.now a b c)⟩
theorem AW.exit{id:Nat}(h:Q (.exit id) fr s):AW LL P N rd (.exit id) Q fr s:=⟨_,_,_,h,λ_ _ _ _ _ _ a b c=>wpIn_exit (Ends.now a b c)⟩
theorem AW.ret(h:Q .ret fr s):AW LL P N rd .ret Q fr s:=⟨_,_,_,h,λ_ _ _ _ _ _ a b c=>wpIn_ret (Ends.now a b c)⟩
def gg(K:Fr->List aa->Prop)(Q:Exit->Fr->List aa->Prop):Exit->Fr->List aa->Prop
 | .normal,fr,s=>K fr s
 |e,fr,s=>Q e fr s
theorem jZ.seq{x y:Code}{b:Fr}{f:List aa}{e:Exit}{c:Fr}{s2:List aa}(h:jZ LL P N rd x fr s .normal b f)(g:jZ LL P N rd y b f e c s2):jZ LL P N rd (.seq x y) fr s e c s2:=λB k a w r h0 j l m=>by
 refine wpIn_seq (wpIn_mono (h B k a w r h0 j l m) ?_);rintro u i w' ⟨rfl,k',o,p,d,q,t⟩;exact wpIn_mono (g B k' i w' r (h0.mono d.mono) o q t) λv a2 z n=>n.trans p d
theorem jZ.seqX{x y:Code}{e:Exit}{b:Fr}{d:List aa}(l:e≠ .normal)(h:jZ LL P N rd x fr s e b d):jZ LL P N rd (.seq x y) fr s e b d:=λB k a w r h0 g i j=>by
 refine wpIn_seq (wpIn_mono (h B k a w r h0 g i j) ?_);intro f n w' m;obtain⟨rfl,c⟩:=m;cases f with
 |normal=>exact absurd rfl l
 |_=>exact⟨rfl,c⟩
theorem AW.seq{x y:Code}(h:AW LL P N rd x (gg (AW LL P N rd y Q) Q) fr s):AW LL P N rd (.seq x y) Q fr s:=by
 obtain⟨e,a,j,d,f⟩:=h;by_cases c:e= .normal
 .subst c;obtain⟨g,b,s2,i,r2⟩:=d;exact⟨g,b,s2,i,f.seq r2⟩
 .refine⟨e,a,j,?_,f.seqX c⟩;cases e with
  |normal=>exact absurd rfl c
  |_=>exact d
theorem AW.cond{c:Operand}{x y:Code}{v:Bool}(hc: ∀(k:aP) (a:Act) (w:World),FR k w a fr->a.eval c= .bool v)(h:AW LL P N rd (if v then x else y) Q fr s):AW LL P N rd (.cond c x y) Q fr s:=by
 obtain⟨e,b,l,i,j⟩:=h;exact⟨e,b,l,i,λB k a w r h0 f d g=>wpIn_cond (t:=v) (hc k a w d) (j B k a w r h0 f d g)⟩
def ma(id:Nat)(Q:Exit->Fr->List aa->Prop):Exit->Fr->List aa->Prop
 | .exit id',fr,s=>if id'=id then Q .normal fr s else Q (.exit id') fr s
 |e,fr,s=>Q e fr s
def u9(id:Nat):Exit->Exit
 | .exit a=>if a=id then .normal else .exit a
 |e=>e
theorem A4(id:Nat)(e:Exit)(fr:Fr)(s:List aa):ma id Q e fr s=Q (u9 id e) fr s:=by
 cases e with
 |exit a=>show(if a=id then _ else _)=Q (if a=id then _ else _) fr s;split<;>rfl
 |_=>rfl
theorem AW.block{id:Nat}{c:Code}(h:AW LL P N rd c (ma id Q) fr s):AW LL P N rd (.block id c) Q fr s:=by
 obtain⟨e,d,p,i,o⟩:=h;rw[A4]at i;refine⟨_,d,p,i,λB k a w r h0 l m n=>wpIn_block (wpIn_mono (o B k a w r h0 l m n) ?_)⟩;rintro j q w' ⟨rfl,g⟩;cases j with
 |exit b=>
  show if b=id then _ else _;by_cases e:b=id
  .have f:u9 id (.exit b)= .normal:=if_pos e;rw[if_pos e,f];exact⟨rfl,g⟩
  .have f:u9 id (.exit b)= .exit b:=if_neg e;rw[if_neg e,f];exact⟨rfl,g⟩
 |_=>exact⟨rfl,g⟩
inductive sb(LL:Nat->Code->CC->Prop)(P:Program)(N:Nat)(rd:Option Nat)(c:Code)(e:Exit)(fr':Fr)(s':List aa):Nat->Fr->List aa->Prop
 |last {fr:Fr} {s:List aa}:e≠ .normal->jZ LL P N rd c fr s e fr' s'->sb LL P N rd c e fr' s' 0 fr s
 |more {n:Nat} {fr fr1:Fr} {s s1:List aa}:jZ LL P N rd c fr s .normal fr1 s1->sb LL P N rd c e fr' s' n fr1 s1->sb LL P N rd c e fr' s' (n+1) fr s
theorem sb.runs{c:Code}{e:Exit}{fr':Fr}{p:List aa}{n:Nat}(h:sb LL P N rd c e fr' p n fr s):jZ LL P N rd (.loop c) fr s e fr' p:=λB k a w r h0 A C D=>by
 refine wpIn_loop_ghost (λn g f=> ∃b q d,sb LL P N rd c e fr' p n b q/\g.tmps.size=N/\Marks w f d a.defers g.defers/\Ext B k w d f/\FR d f g b/\St LL B d q f) n
  ⟨fr,s,k,h,A,Marks.refl _ _ _ _,Ext.refl _ _ _,C,D⟩ ?_
 rintro n g f ⟨b,q,d,G,u,v,i,x,y⟩;cases G with
 |last E m=>
  refine wpIn_mono (m B d g f r (h0.mono i.mono) u x y) λt a2 M F=> ?_;have j:=F.trans v i;obtain⟨rfl,l⟩:=j;cases t with
  |normal=>exact absurd rfl E
  |_=>exact⟨rfl,l⟩
 |more m o=>
  refine wpIn_mono (m B d g f r (h0.mono i.mono) u x y) ?_;rintro t a2 M ⟨rfl,H,I,J,z,K,L⟩;exact⟨_,Nat.lt_succ_self _,_,_,H,o,I,v.trans i.below.size z J,i.trans z,K,L⟩
theorem AW.loop{c:Code}(a:Nat->Fr->List aa->Prop){m:Nat}(h0:a m fr s)(h: ∀m fr s,a m fr s->AW LL P N rd c (gg (λfr' b=> ∃g,g<m/\a g fr' b) Q) fr s):AW LL P N rd (.loop c) Q fr s:=by
 have key: ∀m fr s,a m fr s-> ∃e fr' b n,Q e fr' b/\sb LL P N rd c e fr' b n fr s:=by
  intro m
  induction m using Nat.strongRecOn with
  |_ m t=>
   intro fr s hi;obtain⟨e,d,p,f,o⟩:=h m fr s hi;by_cases j:e= .normal
   .subst j;obtain⟨g,l,k⟩:=f;obtain⟨q,i,s2,n,u,t2⟩:=t g l d p k;exact⟨q,i,s2,n+1,u,.more o t2⟩
   .refine⟨e,d,p,0,?_,.last j o⟩;cases e with
    |normal=>exact absurd rfl j
    |_=>exact f
 obtain⟨e,fr',b,n,f,r⟩:=key m fr s h0;exact⟨e,fr',b,f,r.runs⟩
end
def Enters(P:Program)(f:FuncId):Prop:= ∀(args:Array Value) (w:World),(callFunc f args).run P w= .ok (.enter f args) w
structure iK(LL:Nat->Code->CC->Prop)(P:Program)(f:FuncId)(xs:List AV)(s:List aa)(d:AV)(s':List aa):Prop where
 enters:Enters P f
 calls: ∀(B:Nat) (k:aP) (w:World) (vs:List Value),St LL B k s w->fU k w vs xs->Calls P f vs.toArray w λe w'=> ∃v k',e= .returned v/\RA k' w' v d/\Ext B k w k' w'/\St LL B k' s' w'
def Am(a:Nat->Code->CC->Prop)(P:Program)(id:Nat)(xs:List AV)(s:List aa)(d:AV)(c:List aa):Prop:=
 ∀(B:Nat) (k:aP) (w:World) (vs:List Value) (b:Nat),St a B k s w->fU k w vs xs->k.own[id]?=some (.blk b)->
  ∃fn tmps assign body,(Instr.yield b vs.toArray).run P w= .ok (.round b fn tmps assign body) w/\RoundIn Fence.wide 0 P b fn tmps assign body w λe w'=> ∃v k',e= .returned v/\RA k' w' v d/\Ext B k w k' w'/\St a B k' c w'
def qI(a:Nat->Code->CC->Prop)(P:Program):AV->List AV->List aa->AV->List aa->Prop
 | .clo f fs cs,xs,s,d,s'=>iK a P f (fs++xs++cs) s d s'
 | .yld id,xs,s,d,s'=>Am a P id xs s d s'
 |_,_,_,_,_=>False
def mc(b:Nat->Code->CC->Prop)(P:Program)(c:AV)(xs:List AV)(s:List aa)(K:AV->List aa->Prop):Prop:= ∃d a,qI b P c xs s d a/\K d a
theorem mc.mono{c:AV}{xs:List AV}{s:List aa}{K a:AV->List aa->Prop}(h:mc LL P c xs s K)(hk: ∀d s,K d s->a d s):mc LL P c xs s a:=let⟨d,f,b,e⟩:=h;⟨d,f,b,hk _ _ e⟩
theorem DH{r:Option Nat}{f:FuncId}{args:Array Value}{w:World}{R:Ending->World->Prop}(h:Calls P f args w R):CallsIn (FW r) 0 P f args w R:=by
 cases r with
 |none=>exact callsIn_wide.2 h
 |some l=>exact callsIn_wide (n:=0).2 h
theorem Yr{r:Option Nat}{l:Nat}{f:FuncId}{tmps:Array Value}{assign body:Code}{w:World}{R:Ending->World->Prop}(h:RoundIn Fence.wide 0 P l f tmps assign body w R):RoundIn (FW r) 0 P l f tmps assign body w R:=by
 cases r with
 |none=>exact h
 |some l=>exact h
def closeAll(w:World)(a:List Nat):World:=a.foldl (λw b=>w.putObj b (.deferred none)) w
theorem vS{b:Nat}: ∀(a:List Nat) (w:World),b∉a->(closeAll w a).heap[b]?=w.heap[b]?
 |[],_,_=>rfl
 |m::a,w,h=>by
  show(closeAll (w.putObj m (.deferred none)) a).heap[b]?=_;rw[vS a _ (λc=>h (by simp[c])),World.putObj_heap_other (λe=>h (by simp[e]))]
theorem HT: ∀(a:List Nat) (w:World),(closeAll w a).heap.size=w.heap.size/\(closeAll w a).os=w.os/\(closeAll w a).tape=w.tape/\(closeAll w a).output=w.output
 |[],_=>⟨rfl,rfl,rfl,rfl⟩
 |m::a,w=>by
  obtain⟨b,c,d,e⟩:=HT a (w.putObj m (.deferred none));exact⟨b.trans World.putObj_size,c,d,e⟩
theorem Ex{fn:Func}{tmps:Array Value}{R:Ending->World->Prop}: ∀(a:List Nat) (w:World),a.Nodup->(∀b∈a,w.heap[b]?=some (.deferred (some [])))->
  (∃v,(results fn tmps).run P (closeAll w a)= .ok v (closeAll w a)/\R (.returned v) (closeAll w a))->LeavesInM Fence.wide 0 P fn tmps R (a.map mark) .returning w
 |[],w,_,_,h=>h
 |m::a,w,hnd,hm,h=>by
  refine⟨by simp,.inl ⟨m,w.putObj m (.deferred none),rfl,run_takeDeferred (hm m (by simp)),?_⟩⟩;refine Ex a _ (nP.1 hnd).2 (λb hb=> ?_) h;rw[World.putObj_heap_other (λe=>by subst e;exact(nP.1 hnd).1 hb)];exact hm b (by simp[hb])
theorem HU{B:Nat}{m k:aP}{s:List aa}{i w:World}{c:List Nat}(hb: ∀b∈c,i.heap.size<=b/\w.heap[b]?=some (.deferred (some []))/\lA k b)(e:Ext B m i k w)(t:St LL B k s w)(v:B<=i.heap.size):
  Mono k w k (closeAll w c)/\Ext B m i k (closeAll w c)/\St LL B k s (closeAll w c):=by
 obtain⟨l,n,p,q⟩:=HT c w;have g: ∀b o u,w.cell? ⟨b,o,none⟩=some u->(closeAll w c).cell? ⟨b,o,none⟩=some u:=λb o u hc=>by
  have r:b∉c:=λhm=>by
   have:=(hb b hm).2.1;unfold World.cell? at hc;rw[this]at hc;cases hc
  rw[vG (w:=w) (vS c w r)];exact hc
 have hm:Mono k w k (closeAll w c):=⟨λb o u h hc=>⟨h,g b o u hc⟩,λ_ o h=>⟨o,h,dM.refl o⟩⟩
 have f: ∀b,b<i.heap.size->b∉c:=λb d a=>by have:=(hb b a).1;omega
 refine⟨hm,⟨e.mono.trans hm,⟨n.trans e.below.os,p.trans e.below.tape,q.trans e.below.output,by rw[l];exact e.below.size,λb d=> ?_⟩,e.low,λb d j=> ?_,e.fresh⟩,?_⟩
 .rw[vS c w (f b a8)];exact e.below.block b d
 .rw[vS c w (f b d)];exact e.rest b d j
 .refine t.same hm (by rw[l];exact bg _) rfl (λb j=>⟨vS c w λa=>j (hb b a).2.2,rfl⟩) λb d=>vS c w λa=>by have:=(hb b a).1;omega
theorem iK.of{f:FuncId}{fn:Func}{c:Code}{xs:List AV}{s:List aa}{d:AV}{r:List aa}{fr fr':Fr}{e:Exit}(j:P.funcs[f]?=some fn)(hb:fn.body=some c)(H:(fn.name== "runtime.NumGoroutine")=false)(G:e= .normal\/e= .ret)
  (Q:xs.length<=fn.ntmps) (t: ∀(k:aP) (w:World) (vs:List Value),fU k w vs xs->FR k w {tmps:=vs.toArray++Array.replicate (fn.ntmps-vs.toArray.size) undef,defers:=[]} fr)
  (I:jZ LL P fn.ntmps none c fr s e fr' r)
  (m: ∀(B:Nat) (k:aP) (a:Act) (w:World),FR k w a fr'->St LL B k r w-> ∃v,(results fn a.tmps).run P w= .ok v w/\RA k w v d):iK LL P f xs s d r:=by
 have x:fn.name≠ "runtime.NumGoroutine":=by simpa using H
 refine⟨λargs w=>by simp[callFunc,j,x,hb,Go.mark],λB k w vs o p=> ?_⟩;rw[<-callsIn_wide (n:=0)];refine callsIn_of_wp_marks j hb trivial ?_;have C:=p.1;refine wpIn_mono (I B k _ w none trivial (by simp;omega) (t k w vs p) o) ?_;rintro O q w' ⟨rfl,k',R,⟨E,u,y,l⟩,J,K,L⟩;obtain⟨M,N,D⟩:=HU l J L o.base
 have F:q.defers=E.map mark:=by rw[u];simp
 have i:LeavesInM Fence.wide 0 P fn q.tmps (λe h=> ∃v g,e= .returned v/\RA g h v d/\Ext B k w g h/\St LL B g r h) q.defers .returning w':=by
  rw[F];refine Ex E w' y (λb hb=>(l b hb).2.1) ?_;obtain⟨v,z,A⟩:=m B k' q _ (K.mono M) D;exact⟨v,z,v,k',rfl,A,N,D⟩
 rcases G with rfl|rfl
 .exact i
 .exact i
end
end Go.Bb
namespace Go.Bb
open Go Go.RowKit Go.Ab
def X.ev(fr:Fr):X->Option AV
 | .t n=>look fr n
 | .c x=>some x
def jN(fr:Fr):List X->Option (List AV)
 |[]=>some []
 |x::l=>(x.ev fr).bind λv=>(jN fr l).map (v:: ·)
def dq:BinOp->Value->Value->Option Value
 | .add,.int k a,.int k' b=>if k=k' then some (.int k (k.wrap (a+b)))else none
 | .sub,.int k a,.int k' b=>if k=k' then some (.int k (k.wrap (a-b)))else none
 | .mul,.int k a,.int k' b=>if k=k' then some (.int k (k.wrap (a*b)))else none
 | .eql,.int k a,.int k' b=>if k=k' then some (.bool (a==b))else none
 | .neq,.int k a,.int k' b=>if k=k' then some (.bool (a !=b))else none
 | .lss,.int k a,.int k' b=>if k=k' then some (.bool (decide (a<b)))else none
 | .leq,.int k a,.int k' b=>if k=k' then some (.bool (decide (a<=b)))else none
 | .gtr,.int k a,.int k' b=>if k=k' then some (.bool (decide (a>b)))else none
 | .geq,.int k a,.int k' b=>if k=k' then some (.bool (decide (a>=b)))else none
 | .and,.int k a,.int k' b=>if k=k' then some (.int k (k.wrap (BitVec.ofInt k.bits a&&&BitVec.ofInt k.bits b).toNat))else none
 | .or,.int k a,.int k' b=>if k=k' then some (.int k (k.wrap (BitVec.ofInt k.bits a|||BitVec.ofInt k.bits b).toNat))else none
 | .xor,.int k a,.int k' b=>if k=k' then some (.int k (k.wrap (BitVec.ofInt k.bits a^^^BitVec.ofInt k.bits b).toNat))else none
 | .andNot,.int k a,.int k' b=>if k=k' then some (.int k (k.wrap (BitVec.ofInt k.bits a&&& ~~~BitVec.ofInt k.bits b).toNat))else none
 | .quo,.int k a,.int k' b=>if k=k'/\b≠0 then some (.int k (k.wrap (a.tdiv b)))else none
 | .rem,.int k a,.int k' b=>if k=k'/\b≠0 then some (.int k (a.tmod b))else none
 | .shl,.int k a,.int _ b=>if 0<=b then some (.int k (k.wrap (a*2^min b.toNat k.bits)))else none
 | .shr,.int k a,.int _ b=>if 0<=b then some (.int k (a.fdiv (2^min b.toNat k.bits)))else none
 | .eql,.string a,.string b=>some (.bool (a.toList==b.toList))
 | .lss,.string a,.string b=>some (.bool (Op.bytesLess a.toList b.toList))
 | .leq,.string a,.string b=>some (.bool (Op.bytesLess a.toList b.toList||a.toList==b.toList))
 | .gtr,.string a,.string b=>some (.bool !(Op.bytesLess a.toList b.toList||a.toList==b.toList))
 | .geq,.string a,.string b=>some (.bool !(Op.bytesLess a.toList b.toList))
 | .neq,.string a,.string b=>some (.bool !(a.toList==b.toList))
 | .add,.string a,.string b=>if((a.size+b.size:Nat):Int)<=9223372036854775807 then some (.string (a++b))else none
 |_,_,_=>none
def bJ:List SK->List Value->List Value->Option Bool
 |[],[],[]=>some true
 | .i::ks,.int k a::us,.int k' b::vs=>if k=k' then(bJ ks us vs).map ((a==b)&& ·)else none
 | .s::ks,.string a::us,.string b::vs=>(bJ ks us vs).map ((a.toList==b.toList)&& ·)
 | .b::ks,.bool a::us,.bool b::vs=>(bJ ks us vs).map ((a==b)&& ·)
 |_,_,_=>none
def kV:List AV->Option (List Value)
 |[]=>some []
 | .d (.sc v)::cs=>(kV cs).map (v:: ·)
 |_=>none
def AV.sc? :AV->Option Value
 | .d (.sc v)=>some v
 |_=>none
def AV.key(ag:Bool)(x:AV):Option (List Value):=if ag then x.row.bind kV else x.sc?.bind λu=>if u.oneCell' then some [u]else none
def AV.keyK(ag:Bool)(ks:List SK)(x:AV):Option (List Value):=(x.key ag).bind λus=>if us.length=ks.length then some us else none
def AV.bool? :AV->Option Bool
 | .d (.sc (.bool b))=>some b
 |_=>none
def AV.int? :AV->Option Int
 | .d (.sc (.int .i64 n))=>some n
 |_=>none
def AV.num? :AV->Option Int
 | .d (.sc (.int _ n))=>some n
 |_=>none
def AV.str? :AV->Option ByteArray
 | .d (.sc (.string b))=>some b
 |_=>none
def slA(sz:Nat):AV->Option (List (List D))
 | .d (.sl s rows)=>if s=sz then some rows else none
 | .tsl _ s rows=>if s=sz then some rows else none
 | .nil s=>if s=sz then some []else none
 | .emp s=>if s=sz then some []else none
 |_=>none
def pM(fr:Fr)(a:Nat):Option X->Option Int
 |none=>some a
 |some x=>(x.ev fr).bind AV.int?
def lF(fr:Fr):List AV->List (Nat×Nat×X)->Option (List AV)
 |cs,[]=>some cs
 |cs,(off,size,x)::ps=>((x.ev fr).bind AV.cells).bind λvs=>if vs.length=size/\off+size<=cs.length then lF fr (cs.take off++vs++cs.drop (off+size)) ps else none
def AV.hdl:AV->Option Nat
 | .ptr id _=>some id
 | .vec id _ _=>some id
 | .vptr id _ _=>some id
 | .win id _ _ _=>some id
 | .vwn id _ _ _ _=>some id
 | .mp id=>some id
 |_=>none
def ir(s:List aa)(v:AV):Option aa:=v.hdl.bind (s[·]?)
def nV:Option aa->Option (List AV)
 |some (.cells cs)=>some cs
 |_=>none
def gY(n:Nat):Option aa->Option (Nat×List AV)
 |some (.vec _ sz ds)=>if 0<sz/\ds.length=n*sz then some (sz,ds)else none
 |_=>none
def rp(ag:Bool):Option aa->Option (List (List Value×AV))
 |some (.map ag' es)=>if ag'=ag then some es else none
 |_=>none
def sO:Option aa->Option Int
 |some (.map _ es)=>some es.length
 |_=>none
def qj(ds:List AV)(off:Nat):Option Nat->Option AV
 |none=>ds[off]?
 |some m=>if off+m<=ds.length then some (aggA ((ds.drop off).take m))else none
def wN(ds:List D)(off:Nat):Option Nat->Option AV
 |none=>(ds[off]?).map .d
 |some m=>if off+m<=ds.length then some (.d (.agg ((ds.drop off).take m)))else none
def kU(o:Option aa)(n:Option Nat):AV->Option AV
 | .d (.ref ds)=>wN ds 0 n
 | .ptr _ off=>(nV o).bind λcs=>qj cs off n
 | .vptr _ m off=>(gY m o).bind λp=>qj p.2 off n
 |_=>none
def nC(off:Nat):AV->Option AV
 | .d (.ref ds)=>some (.d (.ref (ds.drop off)))
 | .ptr id o=>some (.ptr id (o+off))
 | .vptr id n o=>some (.vptr id n (o+off))
 |_=>none
def qo(o:Option aa)(sz:Nat)(i:Int):AV->Option AV
 | .vec id m a=>(gY m o).bind λp=>if a=sz/\p.1=sz/\0<=i/\i.toNat<m then some (.vptr id m (i.toNat*sz))else none
 | .win id off n a=>if a=sz/\0<=i/\i.toNat<n then some (.ptr id (off+i.toNat*sz))else none
 | .vwn id N off n a=>(gY N o).bind λp=>if a=sz/\p.1=sz/\0<=i/\i.toNat<n/\off+n<=N then some (.vptr id N ((off+i.toNat)*sz))else none
 |v=>(slA sz v).bind λrows=>if 0<=i then(rows[i.toNat]?).map λr=> .d (.ref r)else none
def wT(n sz:Nat)(j:Int):AV->Option AV
 | .d (.ref ds)=>if 0<=j/\j<n then some (.d (.ref (ds.drop (j.toNat*sz))))else none
 | .ptr id o=>if 0<=j/\j<n then some (.ptr id (o+j.toNat*sz))else none
 | .vptr id m o=>if 0<=j/\j<n then some (.vptr id m (o+j.toNat*sz))else none
 |_=>none
def M7(off:Nat)(n:Option Nat)(v:AV):Option AV:=v.row.bind λcs=>qj cs off n
def FI(len sz:Nat)(n:Option Nat)(j:Int)(v:AV):Option AV:=if 0<=j/\j<len then v.row.bind λcs=>qj cs (j.toNat*sz) n else none
def tA(i:Nat):AV->Option AV
 | .d (.tup ds)=>(ds[i]?).map .d
 | .tup cs=>cs[i]?
 |_=>none
def gr(o:Option aa):Nat->AV->Option Int
 |0,.d (.sl _ rows)=>some rows.length
 |0,.tsl _ _ rows=>some rows.length
 |0,.nil _=>some 0
 |0,.emp _=>some 0
 |0,.vec _ n _=>some n
 |0,.win _ _ n _=>some n
 |0,.vwn _ _ _ n _=>some n
 |1,.d (.sc (.string b))=>some b.size
 |2,.mp _=>sO o
 |2,.d (.sc (.map none))=>some 0
 |_,_=>none
def sn(b:Bool):AV:= .d (.sc (.bool b))
def wB(n:Int):AV:= .d (.sc (.int .i64 n))
def nD:AV->Option Bool
 | .nil _=>some true
 | .win _ _ _ _=>some false
 | .d (.sl _ (_::_))=>some false
 | .tsl _ _ (_::_)=>some false
 |_=>none
def zL:UnOp->Value->Option Value
 | .neg,.int k a=>some (.int k (k.wrap (-a)))
 | .xor,.int k a=>some (.int k (k.wrap (BitVec.ofInt k.bits (if k.signed then-1 else k.max)^^^BitVec.ofInt k.bits a).toNat))
 |_,_=>none
def Kl(mx:Bool):Value->Value->Option Value
 | .int k a,.int k' b=>if k=k' then some (.int k (if(if mx then b>a else b<a)then b else a))else none
 |_,_=>none
def qp(o:Option aa)(sz:Nat)(l:Int)(h:Option Int):AV->Option AV
 | .vec id n a=>(gY n o).bind λp=>if(a=sz/\p.1=sz/\l<n)/\0<=l/\l<=h.getD n/\h.getD n<=n then some (.vwn id n l.toNat ((h.getD n).toNat-l.toNat) sz)else none
 | .vwn id N off n a=>(gY N o).bind λp=>if(a=sz/\p.1=sz/\l<n)/\0<=l/\l<=h.getD n/\h.getD n<=n then some (.vwn id N (off+l.toNat) ((h.getD n).toNat-l.toNat) sz)else none
 | .win id off n a=>if(a=sz/\l<n)/\0<=l/\l<=h.getD n/\h.getD n<=n then some (.win id (off+l.toNat*sz) ((h.getD n).toNat-l.toNat) sz)else none
 |v=>(slA sz v).bind λrows=>if 0<=l/\l<=h.getD rows.length/\h.getD rows.length<=rows.length then some (.d (.sl sz ((rows.take (h.getD rows.length).toNat).drop l.toNat)))else none
def chunk{α:Type}(sz:Nat):Nat->List α->List (List α)
 |0,_=>[]
 |n+1,l=>l.take sz::chunk sz n (l.drop sz)
def zn(n sz:Nat)(l:Int)(h:Option Int):AV->Option AV
 | .ptr id off=>if l<n/\0<=l/\l<=h.getD n/\h.getD n<=n then some (.win id (off+l.toNat*sz) ((h.getD n).toNat-l.toNat) sz)else none
 | .d (.ref ds)=>if(l<n/\0<=l/\l<=h.getD n/\h.getD n<=n)/\n*sz<=ds.length then some (.d (.sl sz (chunk sz ((h.getD n).toNat-l.toNat) ((ds.drop (l.toNat*sz)).take (((h.getD n).toNat-l.toNat)*sz)))))else none
 |_=>none
def FL(b:ByteArray)(l:Int)(h:Option Int):Option AV:=if 0<=l/\l<=h.getD b.size/\h.getD b.size<=b.size then some (.d (.sc (.string (b.extract l.toNat (h.getD b.size).toNat))))else none
def FK(b:ByteArray)(i:Int):Option AV:=if 0<=i then(b[i.toNat]?).map λx=> .d (.sc (.int .u8 x.toNat))else none
def pN(fr:Fr):Option X->Option (Option Int)
 |none=>some none
 |some x=>((x.ev fr).bind AV.int?).map some
def bytesRow(b:ByteArray):List (List D):=b.data.toList.map λx=>[.sc (.int .u8 x.toNat)]
def FJ(b:ByteArray):Option AV:=if b.size<=140737488355328 then some (.d (.sl 1 (bytesRow b)))else none
def so:AV->Option UInt8
 | .d (.sc (.int .u8 n))=>if 0<=n/\n<256 then some (UInt8.ofNat n.toNat)else none
 |_=>none
def iS:List AV->Option (List UInt8)
 |[]=>some []
 |x::l=>(so x).bind λb=>(iS l).map (b:: ·)
def tz(o:Option aa):AV->Option ByteArray
 | .win _ off n sz=>if sz=1 then(nV o).bind λcs=>if off+n<=cs.length then(iS ((cs.drop off).take n)).map λl=>⟨l.toArray⟩else none else none
 | .vec _ n sz=>if sz=1 then(gY n o).bind λp=>if p.1=1 then(iS p.2).map λl=>⟨l.toArray⟩else none else none
 |v=>(slA 1 v).bind λrows=>(iS (rows.flatten.map .d)).map λl=>⟨l.toArray⟩
def ey(ks:List SK)(key:List Value):List (List Value×AV)->Nat->Option (Option (Nat×AV))
 |[],_=>some none
 |e::es,i=>(bJ ks key e.1).bind λb=>if b=true then some (some (i,e.2))else ey ks key es (i+1)
def rH(ag:Bool)(ks:List SK)(o:Option aa)(z:AV)(ok:Bool)(key:List Value):AV->Option AV
 | .mp _=>(rp ag o).bind λes=>(ey ks key es 0).map λr=>if ok then .tup [(r.map (·.2)).getD z,sn r.isSome]else(r.map (·.2)).getD z
 | .d (.sc (.map none))=>some (if ok then .tup [z,sn false]else z)
 |_=>none
def ret(s:List aa)(o:Option AV):Option (AV×List aa):=o.map λd=>(d,s)
def vb:AV:= .d (.sc undef)
def iX(s:List aa)(sz:Nat):AV->Option (Nat×List AV)
 | .vec id n a=>(gY n (s[id]?)).bind λp=>if a=sz/\p.1=sz then some (n,p.2)else none
 | .vwn id N off n a=>(gY N (s[id]?)).bind λp=>if a=sz/\p.1=sz/\off+n<=N then some (n,(p.2.drop (off*sz)).take (n*sz))else none
 | .win id off n a=>(nV (s[id]?)).bind λcs=>if a=sz/\off+n*sz<=cs.length then some (n,(cs.drop off).take (n*sz))else none
 |v=>(slA sz v).map λrows=>(rows.length,rows.flatten.map .d)
def putCells(s:List aa)(id off m:Nat)(vs cs:List AV):Option (AV×List aa):=if vs.length=m/\off+m<=cs.length then some (vb,s.set id (.cells (cs.take off++vs++cs.drop (off+m))))else none
def z6(s:List aa)(id off m e sz:Nat)(vs ds:List AV):Option (AV×List aa):=if vs.length=m/\off+m<=ds.length then some (vb,s.set id (.vec e sz (ds.take off++vs++ds.drop (off+m))))else none
def mA:Option aa->Nat
 |some (.vec e _ _)=>e
 |_=>0
def pr(s:List aa)(m:Nat)(vs:List AV):AV->Option (AV×List aa)
 | .ptr id off=>(nV (s[id]?)).bind λcs=>putCells s id off m vs cs
 | .vptr id n off=>(gY n (s[id]?)).bind λp=>z6 s id off m (mA s[id]?) p.1 vs p.2
 |_=>none
def gU(e sz n:Nat):Option aa->Bool
 |some (.row e' sz2 n2)=>decide (e'=e/\sz2=sz/\n2=n)
 |_=>false
def bw(n a:Nat):Bool:=decide (n*a<=140737488355328/\n<=9223372036854775807)
def jD(s:List aa)(mu:Bool)(e sz a:Nat)(y:AV):AV->Option (AV×List aa)
 | .vec id n b=>(iX s sz y).bind λus=>(gY n (s[id]?)).bind λp=>if(b=sz/\p.1=sz/\mA s[id]?=e/\us.2.length=us.1*sz)/\bw (n+us.1) a=true then
  some (.vec id (n+us.1) sz,s.set id (.vec e sz (p.2++us.2)))else none
 | .nil b=>if(mu||(slA sz y).isNone)=true then(iX s sz y).bind λus=>if(b=sz/\0<us.1/\us.2.length=us.1*sz)/\bw us.1 a=true then some (.vec s.length us.1 sz,s++[.vec e sz us.2])else none else(slA sz y).bind λnews=>if news=[]then some (.nil b,s)else if b=sz/\bw news.length a=true then some (.tsl s.length sz news,s++[.row e sz news.length])else none
 | .emp b=>if(mu||(slA sz y).isNone)=true then(iX s sz y).bind λus=>if(b=sz/\0<us.1/\us.2.length=us.1*sz)/\bw us.1 a=true then some (.vec s.length us.1 sz,s++[.vec e sz us.2])else none else(slA sz y).bind λnews=>if news=[]then some (.emp b,s)else if b=sz/\bw news.length a=true then some (.tsl s.length sz news,s++[.row e sz news.length])else none
 | .tsl id b rows=>(slA sz y).bind λnews=>if(b=sz/\gU e sz rows.length s[id]?=true)/\bw (rows.length+news.length) a=true then
  some (.tsl id sz (rows++news),s.set id (.row e sz (rows.length+news.length)))else none
 | .vwn id N off m b=>(iX s sz y).bind λus=>(gY N (s[id]?)).bind λp=>if((b=sz/\p.1=sz/\mA s[id]?=e/\us.2.length=us.1*sz)/\off=0/\m<=N)/\bw (m+us.1) a=true then
  some (if m+us.1<=N then(.vwn id N 0 (m+us.1) sz,s.set id (.vec e sz (p.2.take (m*sz)++us.2++p.2.drop (m*sz+us.1*sz))))else(.vec id (m+us.1) sz,s.set id (.vec e sz (p.2.take (m*sz)++us.2))))else none
 |_=>none
def zx(s:List aa)(mu:Bool)(e sz n:Nat)(cs:List AV):Option (AV×List aa):=
 if cs.length=n*sz/\n<=9223372036854775807 then
  if(mu||(toLs cs).isNone)=true then some (.vec s.length n sz,s++[.vec e sz cs])else(toLs cs).map λds=>(.tsl s.length sz (chunk sz n ds),s++[.row e sz n])
 else none
def lU(sz n:Nat)(cs:List AV):Option AV:=if cs.length=n*sz/\n<=9223372036854775807 then(toLs cs).map λds=> .d (.sl sz (chunk sz n ds))else none
def zy(s:List aa)(mu:Bool)(e a:Nat)(z:AV)(n m:Int):Option (AV×List aa):=
 if 0<=n/\n<=m/\m*a<=140737488355328/\m<=140737488355328 then
  if mu then some (.vec s.length n.toNat 1,s++[.vec e 1 (List.replicate n.toNat z)])else z.toL.map λd=>(.tsl s.length 1 (List.replicate n.toNat [d]),s++[.row e 1 n.toNat])
 else none
def pw(es:List (List Value×AV))(key:List Value)(v:AV):Option (Nat×AV)->List (List Value×AV)
 |some (i,_)=>es.set i (key,v)
 |none=>es++[(key,v)]
def pq(ag:Bool)(ks:List SK)(s:List aa)(key:List Value)(v:AV):AV->Option (AV×List aa)
 | .mp id=>(rp ag (s[id]?)).bind λes=>(ey ks key es 0).map λr=>(vb,s.set id (.map ag (pw es key v r)))
 |_=>none
def uU(ag:Bool)(ks:List SK)(s:List aa)(key:List Value)(z:AV):AV->Option (AV×List aa)
 | .mp id=>(rp ag (s[id]?)).bind λes=>(ey ks key es 0).map λr=>match r with
  |some (i,v)=>(.tup [v,wB i],s.set id (.map ag (es.set i (key,v))))
  |none=>(.tup [z,wB es.length],s.set id (.map ag (es++[(key,z)])))
 |_=>none
def yO:Option aa->Option (Bool×List (List Value×AV))
 |some (.map ag es)=>some (ag,es)
 |_=>none
def uV(s:List aa)(i:Int)(v:AV):AV->Option (AV×List aa)
 | .mp id=>(yO (s[id]?)).bind λp=>if 0<=i then(p.2[i.toNat]?).map λe=>(vb,s.set id (.map p.1 (p.2.set i.toNat (e.1,v))))else none
 |_=>none
def Cx(s:List aa)(e:Nat)(b:ByteArray):Option (AV×List aa):=if b.size<=140737488355328 then some (.tsl s.length 1 (bytesRow b),s++[.row e 1 b.size])else none
def uT(s:List aa)(sz:Nat)(z:List AV):AV->Option (AV×List aa)
 | .vwn id N off n a=>(gY N (s[id]?)).bind λp=>if(a=sz/\p.1=sz/\z.length=sz)/\0<n/\off+n<=N then some (.d (.sc (.tuple #[])),s.set id (.vec (mA s[id]?) sz (p.2.take (off*sz)++(List.replicate n z).flatten++p.2.drop (off*sz+n*sz))))else none
 |_=>none
def CI.sem(fr:Fr)(s:List aa):CI->Option (AV×List aa)
 | .mov x=>ret s (x.ev fr)
 | .pick c a b=>ret s (((c.ev fr).bind AV.bool?).bind λv=>(if v then a else b).ev fr)
 | .ld n x=>ret s ((x.ev fr).bind λv=>kU (ir s v) n v)
 | .st m x v=>(x.ev fr).bind λp=>((v.ev fr).bind AV.cells).bind λvs=>pr s m vs p
 | .fad off x=>ret s ((x.ev fr).bind (nC off))
 | .iad sz x i=>ret s (((i.ev fr).bind AV.num?).bind λj=>(x.ev fr).bind λv=>qo (ir s v) sz j v)
 | .iap n sz x i=>ret s (((i.ev fr).bind AV.num?).bind λj=>(x.ev fr).bind λv=>wT n sz j v)
 | .fld off n x=>ret s ((x.ev fr).bind (M7 off n))
 | .idx w sz n x i=>ret s (((i.ev fr).bind AV.num?).bind λj=>(x.ev fr).bind λv=>FI w sz n j v)
 | .ext x i=>ret s ((x.ev fr).bind (tA i))
 | .bin q x y=>ret s (((x.ev fr).bind AV.sc?).bind λu=>((y.ev fr).bind AV.sc?).bind λv=>(dq q u v).map λr=> .d (.sc r))
 | .eqa ag ks o x y=>ret s (((x.ev fr).bind (AV.key ag)).bind λus=>((y.ev fr).bind (AV.key ag)).bind λvs=>(bJ ks us vs).map λb=>sn (o !=b))
 | .isn o x=>ret s (((x.ev fr).bind nD).map λb=>sn (o !=b))
 | .not x=>ret s (((x.ev fr).bind AV.bool?).map λb=>sn !b)
 | .mm mx x y=>ret s (((x.ev fr).bind AV.sc?).bind λu=>((y.ev fr).bind AV.sc?).bind λv=>(Kl mx u v).map λr=> .d (.sc r))
 | .bad=>none
 | .un q x=>ret s (((x.ev fr).bind AV.sc?).bind λu=>(zL q u).map λr=> .d (.sc r))
 | .len kd x=>ret s ((x.ev fr).bind λv=>(gr (ir s v) kd v).map wB)
 | .slc sz x lo hi=>ret s ((x.ev fr).bind λv=>(pM fr 0 lo).bind λl=>(pN fr hi).bind λh=>qp (ir s v) sz l h v)
 | .slz sz x=>ret s ((x.ev fr).bind λv=>(slA sz v).map λ_=> .emp sz)
 | .sla n sz x lo hi=>ret s ((x.ev fr).bind λv=>(pM fr 0 lo).bind λl=>(pN fr hi).bind λh=>zn n sz l h v)
 | .sls x lo hi=>ret s (((x.ev fr).bind AV.str?).bind λb=>(pM fr 0 lo).bind λl=>(pN fr hi).bind λh=>FL b l h)
 | .six x i=>ret s (((x.ev fr).bind AV.str?).bind λb=>((i.ev fr).bind AV.num?).bind λj=>FK b j)
 | .app mu e sz g x y=>(x.ev fr).bind λv=>(y.ev fr).bind λu=>jD s mu e sz g u v
 | .bld z ps=>ret s ((lF fr z ps).map aggA)
 | .bsl mu e sz n z ps=>(lF fr z ps).bind λcs=>zx s mu e sz n cs
 | .bsf sz n z ps=>ret s ((lF fr z ps).bind (lU sz n))
 | .mks mu e g z l c=>((l.ev fr).bind AV.int?).bind λn=>((c.ev fr).bind AV.int?).bind λm=>zy s mu e g z n m
 | .cnv k x=>ret s (((x.ev fr).bind AV.sc?).bind λu=>match u with
  | .int _ n=>some (.d (.sc (.int k (k.wrap n))))
  |_=>none)
 | .s2b x=>ret s (((x.ev fr).bind AV.str?).bind FJ)
 | .s2o e x=>((x.ev fr).bind AV.str?).bind (Cx s e)
 | .b2s x=>ret s ((x.ev fr).bind λv=>(tz (ir s v) v).map λb=> .d (.sc (.string b)))
 | .nck x=>ret s ((x.ev fr).bind (nC 0))
 | .box x=>((x.ev fr).bind AV.cells).map λcs=>(.ptr s.length 0,s++[.cells cs])
 | .bxt t x=>((x.ev fr).bind AV.cells).map λcs=>(.ptr s.length 0,s++[.tcells t cs])
 | .clr sz z x=>(x.ev fr).bind (uT s sz z)
 | .bxf x=>ret s (((x.ev fr).bind AV.cells).bind λcs=>(toLs cs).map λds=> .d (.ref ds))
 | .mkf f xs A=>ret s ((jN fr xs).bind λus=>(jN fr A).map λvs=> .clo f us vs)
 | .mkm ag=>some (.mp s.length,s++[.map ag []])
 | .nlr e sz=>some (.tsl s.length sz [],s++[.row e sz 0])
 | .lkp ag ks z ok m k=>ret s (((k.ev fr).bind (AV.keyK ag ks)).bind λkey=>(m.ev fr).bind λv=>rH ag ks (ir s v) z ok key v)
 | .mup ag ks m k v=>((k.ev fr).bind (AV.keyK ag ks)).bind λkey=>(v.ev fr).bind λu=>(m.ev fr).bind λp=>pq ag ks s key u p
 | .men ag ks z m k=>((k.ev fr).bind (AV.keyK ag ks)).bind λkey=>(m.ev fr).bind λp=>uU ag ks s key z p
 | .mst m i v=>((i.ev fr).bind AV.int?).bind λj=>(v.ev fr).bind λu=>(m.ev fr).bind λp=>uV s j u p
 | .call _ _=>none
def AV.vecId:AV->Option Nat
 | .vec id _ _=>some id
 | .vwn id _ _ _ _=>some id
 |_=>none
def CI.use(fr:Fr):CI->Option Nat
 | .ld _ x=>(x.ev fr).bind AV.hdl
 | .iad _ x _=>(x.ev fr).bind AV.vecId
 | .slc _ x _ _=>(x.ev fr).bind AV.vecId
 | .len kd x=>if kd=2 then(x.ev fr).bind AV.hdl else none
 | .b2s x=>(x.ev fr).bind AV.hdl
 | .lkp _ _ _ _ m _=>(m.ev fr).bind AV.hdl
 |_=>none
def nf:Option AV->Nat
 |some (.nil _)=>3
 |some (.emp _)=>3
 |_=>2
theorem Dr(o:Option AV):2<=nf o:=by unfold nf;split<;>decide
theorem Pp(o:Option AV):nf o<=3:=by unfold nf;split<;>decide
def CI.touch(fr:Fr):CI->Nat
 | .st .. | .mup .. | .men .. | .mst .. | .clr .. =>2
 | .app _ _ _ _ x _=>nf (x.ev fr)
 | .box .. | .bsl .. | .mks .. | .mkm _| .nlr .. | .s2o .. | .bxt .. =>3
 | .ld n x=>if(CI.use fr (.ld n x)).isSome then 1 else 0
 | .iad sz x i=>if(CI.use fr (.iad sz x i)).isSome then 1 else 0
 | .slc sz x lo hi=>if(CI.use fr (.slc sz x lo hi)).isSome then 1 else 0
 | .len kd x=>if(CI.use fr (.len kd x)).isSome then 1 else 0
 | .b2s x=>if(CI.use fr (.b2s x)).isSome then 1 else 0
 | .lkp ag ks z ok m k=>if(CI.use fr (.lkp ag ks z ok m k)).isSome then 1 else 0
 |_=>0
def AV.rowId:AV->Option Nat
 | .vwn id _ _ _ _=>some id
 | .vec id _ _=>some id
 | .tsl id _ _=>some id
 |_=>none
def CI.wr(fr:Fr):CI->Option Nat
 | .st _ x _=>(x.ev fr).bind AV.hdl
 | .clr _ _ x=>(x.ev fr).bind AV.vecId
 | .app _ _ _ _ x _=>(x.ev fr).bind AV.rowId
 | .mup _ _ m _ _=>(m.ev fr).bind AV.hdl
 | .men _ _ _ m _=>(m.ev fr).bind AV.hdl
 | .mst m _ _=>(m.ev fr).bind AV.hdl
 |_=>none
def sP(t:Nat)(u w:Option Nat):Nat:=if t=1 then(u.map (4+2* ·)).getD 1 else if t=2 then(w.map (5+2* ·)).getD 2 else t
def CI.mark(fr:Fr)(ci:CI):Nat:=sP (ci.touch fr) (ci.use fr) (ci.wr fr)
def dU(P:Program):Nat->TypeId->Option (List SK)
 |0,_=>none
 |d+1,t=>
  match P.underlying t with
  |some (.int _)=>if P.cellsOf t=1/\(P.info? t).isSome=true then some [.i]else none
  |some .string=>if P.cellsOf t=1/\(P.info? t).isSome=true then some [.s]else none
  |some .bool=>if P.cellsOf t=1/\(P.info? t).isSome=true then some [.b]else none
  |some (.array n e)=>match dU P d e with
   |some ks=>if(ks.length=P.cellsOf e/\n*ks.length=P.cellsOf t)/\(P.info? t).isSome=true/\(P.info? e).isSome=true then some (List.replicate n ks).flatten else none
   |none=>none
  |some (.struct fs)=>
   if fs.all (·.name != "_")=true/\P.stoodInHeld t=false/\(P.info? t).isSome=true then
    match fs.toList.mapM λf=>dU P d f.type with
    |some a=>if a.map List.length=fs.toList.map (λf=>P.cellsOf f.type)/\offsOk fs.toList a 0=true/\a.flatten.length=P.cellsOf t then some a.flatten else none
    |none=>none
   else none
  |_=>none
where
 offsOk:List Field->List (List SK)->Nat->Bool
  |f::fs,ks::kss,off=>decide (f.offset=off)&&offsOk fs kss (off+ks.length)
  |_,_,_=>true
theorem sF: ∀{ks:List SK} {us vs:List Value} {b:Bool},bJ ks us vs=some b->us.length=ks.length/\vs.length=ks.length
 |[],[],[],_,_=>⟨rfl,rfl⟩
 | .i::ks,.int k a::us,.int k' c::vs,b,h=>by
  unfold bJ at h;split at h
  .obtain⟨r,d,_⟩:=dy.1 h;have:=sF d;simp[this.1,this.2]
  .cases h
 | .s::ks,.string a::us,.string c::vs,b,h=>by
  unfold bJ at h;obtain⟨r,d,_⟩:=dy.1 h;have:=sF d;simp[this.1,this.2]
 | .b::ks,.bool a::us,.bool c::vs,b,h=>by
  unfold bJ at h;obtain⟨r,d,_⟩:=dy.1 h;have:=sF d;simp[this.1,this.2]
 |[],_::_,_,_,h=>by simp[bJ]at h
 |[],[],_::_,_,h=>by simp[bJ]at h
 |k::ks,[],_,_,h=>by cases k<;>simp[bJ]at h
 |k::ks,u::us,[],_,h=>by cases k<;>simp[bJ]at h
theorem yk: ∀{d g:List SK} {us vs:List Value} {b:Bool},bJ (d++g) us vs=some b->
  ∃e f,bJ d (us.take d.length) (vs.take d.length)=some e/\bJ g (us.drop d.length) (vs.drop d.length)=some f/\b=(e&&f)
 |[],g,us,vs,b,h=>⟨true,b,by simp[bJ],by simpa using h,by simp⟩
 | .i::d,g,.int k a::us,.int k' c::vs,b,h=>by
  rw[gb,bJ]at h;split at h
  .rename_i hk;obtain⟨r,m,rfl⟩:=dy.1 h;obtain⟨e,f,j,l,rfl⟩:=yk m;refine⟨(a==c)&&e,f,?_,by simpa using l,by simp[Bool.and_assoc]⟩;rw[aY,jW,jW,bJ,if_pos hk,j];rfl
  .cases h
 | .s::d,g,.string a::us,.string c::vs,b,h=>by
  rw[gb,bJ]at h;obtain⟨r,m,rfl⟩:=dy.1 h;obtain⟨e,f,j,l,rfl⟩:=yk m;refine⟨(a.toList==c.toList)&&e,f,?_,by simpa using l,by simp[Bool.and_assoc]⟩;rw[aY,jW,jW,bJ,j];rfl
 | .b::d,g,.bool a::us,.bool c::vs,b,h=>by
  rw[gb,bJ]at h;obtain⟨r,m,rfl⟩:=dy.1 h;obtain⟨e,f,j,l,rfl⟩:=yk m;refine⟨(a==c)&&e,f,?_,by simpa using l,by simp[Bool.and_assoc]⟩;rw[aY,jW,jW,bJ,j];rfl
 |k::d,_,[],_,_,h=>by cases k<;>simp[bJ]at h
 |k::d,_,u::us,[],_,h=>by cases k<;>simp[bJ]at h
section
variable {P:Program}
def valC(P:Program)(t:TypeId)(us:List Value):Value:=match P.underlying t with
 |some (.struct _)=> .agg us.toArray
 |some (.array _ _)=> .agg us.toArray
 |_=>us.headD undef
theorem zw{w:World}{t:TypeId}{d:TypeDesc}(h:P.underlying t=some d):(isAgg t).run P w= .ok d.isRow w:=by
 unfold isAgg;simp only[bP,run_underlying h,bV];cases d<;>rfl
theorem JU: ∀{d:Nat} {t:TypeId} {ks:List SK},dU P d t=some ks-> ∃i,P.info? t=some i/\i.size=ks.length/\P.cellsOf t=ks.length
 |0,t,ks,h=>by simp[dU]at h
 |d+1,t,ks,h=>by
  have a:(P.info? t).isSome=true->P.cellsOf t=ks.length-> ∃i,P.info? t=some i/\i.size=ks.length/\P.cellsOf t=ks.length:=λe b=>by
   obtain⟨i,hi⟩:=vB.1 e;refine⟨i,hi,?_,b⟩;unfold Program.cellsOf at b;rw[hi]at b;simpa using b
  unfold dU at h;split at h
  .split at h
   .rename_i hc;obtain rfl:=aJ h;exact a hc.2 hc.1
   .cases h
  .split at h
   .rename_i hc;obtain rfl:=aJ h;exact a hc.2 hc.1
   .cases h
  .split at h
   .rename_i hc;obtain rfl:=aJ h;exact a hc.2 hc.1
   .cases h
  .split at h
   .split at h
    .rename_i hc;obtain rfl:=aJ h;exact a hc.2.1 (by rw[<-hc.1.2];simp)
    .cases h
   .cases h
  .split at h
   .rename_i hc;split at h
    .split at h
     .rename_i c;obtain rfl:=aJ h;exact a hc.2.2 c.2.2.symm
     .cases h
    .cases h
   .cases h
  .cases h
theorem xa{w:World}{d:Nat}{t:TypeId}{ks:List SK}(h:dU P d t=some ks){cs:Array Value}{off:Nat}(o:off+ks.length<=cs.size):(part t cs off).run P w= .ok (valC P t ((cs.toList.drop off).take ks.length)) w:=by
 obtain⟨i,hi,j,hc⟩:=JU h;have f:cs.extract off (off+ks.length)=((cs.toList.drop off).take ks.length).toArray:=by
  apply Array.ext';simp[List.take_drop]
 cases d with
 |zero=>simp[dU]at h
 |succ d=>
  unfold dU at h;unfold valC;have k: ∀b,P.underlying t=some b->b.isRow=false->ks.length=1->(part t cs off).run P w= .ok (((cs.toList.drop off).take ks.length).headD undef) w:=λb a g l=>by
   have c:off<cs.size:=by omega
   have hg:cs[off]?=some cs[off]:=lZ c;unfold part;simp only[bP,zw a,g,bV,l7,if_false,hg,cJ,l];congr 1;have:cs.toList.drop off=cs[off]::cs.toList.drop (off+1):=by rw[lh (by simpa using c)];simp
   rw[this];rfl
  have ag: ∀b,P.underlying t=some b->b.isRow=true->(part t cs off).run P w= .ok (.agg ((cs.toList.drop off).take ks.length).toArray) w:=λb a g=>by
   unfold part;simp only[bP,zw a,g,bV,if_true,sizeOf,typeInfo,run_program,hi,cJ,j,f]
  split at h
  .rename_i q a;rw[a];split at h
   .obtain rfl:=aJ h;exact k _ a rfl rfl
   .cases h
  .rename_i a;rw[a];split at h
   .obtain rfl:=aJ h;exact k _ a rfl rfl
   .cases h
  .rename_i a;rw[a];split at h
   .obtain rfl:=aJ h;exact k _ a rfl rfl
   .cases h
  .rename_i n e a;rw[a];exact ag _ a rfl
  .rename_i m a;rw[a];exact ag _ a rfl
  .cases h
def Da(P:Program)(m:Nat)(t:TypeId)(ks:List SK):Prop:= ∀(w:World) (us vs:List Value) (b:Bool),bJ ks us vs=some b->(Op.equalIn m t (valC P t us) (valC P t vs)).run P w= .ok b w
theorem Mw{w:World}{d m:Nat}(xs j:Array Value): ∀(e:List Field) (a:List (List SK)) (off:Nat) (b:Bool),(∀f∈e,f.name≠ "_")->(∀f∈e,∀ks,dU P d f.type=some ks->Da P m f.type ks)->
  e.mapM (λf=>dU P d f.type)=some a->dU.offsOk e a off=true->off+a.flatten.length<=xs.size->off+a.flatten.length<=j.size->bJ a.flatten ((xs.toList.drop off).take a.flatten.length) ((j.toList.drop off).take a.flatten.length)=some b->(Op.eqFields m xs j e).run P w= .ok b w
 |[],a,off,b,_,_,c,_,_,_,h=>by
  obtain rfl:a=[]:=by simpa using c.symm
  simp[bJ]at h;subst h;simp[Op.eqFields]
 |f::e,a,off,b,hn,hE,c,h2,hx,hy,h=>by
  rw[List.mapM_cons]at c;cases hk:dU P d f.type with
  |none=>rw[hk]at c;cases c
  |some ks=>
   cases hm:e.mapM λf=>dU P d f.type with
   |none=>rw[hk,hm]at c;cases c
   |some i=>
    rw[hk,hm]at c;obtain rfl:ks::i=a:=aJ c;simp only[dU.offsOk,dW,decide_eq_true_eq]at h2;rw[gG,aQ]at hx hy;rw[gG]at h;obtain⟨n,o,k,l,rfl⟩:=yk h;rw[sa,sa,qO (by simp)]at k
    rw[List.drop_take,List.drop_take,vo,vo,aQ,nQ]at l;have p:=xa (w:=w) hk (cs:=xs) (off:=off) a8;have s:=xa (w:=w) hk (cs:=j) (off:=off) a8;have q:=hE f (by simp) ks hk w _ _ _ k
    have r:=Mw (w:=w) xs j e i (off+ks.length) o (λg hg=>hn g (by simp[hg])) (λg hg=>hE g (by simp[hg])) hm h2.2 a8 a8 l;have hne:=hn f (by simp);simp only[Op.eqFields,ne_eq,hne,not_false_eq_true,if_true,bP,h2.1,p,s,q,bV];cases n with
    |true=>simpa using r
    |false=>simp
theorem Mx{w:World}{d m:Nat}{e:TypeId}{ks:List SK}(hk:dU P d e=some ks)(o:Da P m e ks)(xs g:Array Value): ∀(n i:Nat) (b:Bool),(i+n)*ks.length<=xs.size->(i+n)*ks.length<=g.size->
  bJ (List.replicate n ks).flatten ((xs.toList.drop (i*ks.length)).take (n*ks.length)) ((g.toList.drop (i*ks.length)).take (n*ks.length))=some b->(Op.eqItems m e ks.length xs g (List.range' i n)).run P w= .ok b w
 |0,i,b,_,_,h=>by
  simp[bJ]at h;subst h;simp[Op.eqItems]
 |n+1,i,b,hx,hy,h=>by
  rw[s8,gG]at h;obtain⟨p,s,k,l,rfl⟩:=yk h;have a:(n+1)*ks.length=ks.length+n*ks.length:=by rw[fQ,qP,Nat.add_comm]
  have c:(i+(n+1))*ks.length=i*ks.length+(ks.length+n*ks.length):=by rw[fQ,a]
  have f:(i+1)*ks.length=i*ks.length+ks.length:=by rw[fQ,qP]
  rw[sa,sa,qO a8]at k;rw[List.drop_take,List.drop_take,vo,vo,a,nQ,<-f]at l;have t:=xa (w:=w) hk (cs:=xs) (off:=i*ks.length) a8;have u:=xa (w:=w) hk (cs:=g) (off:=i*ks.length) a8;have q:=o w _ _ _ k
  have j:(i+1+n)*ks.length=i*ks.length+(ks.length+n*ks.length):=by rw[<-c];congr 1;omega
  have r:=Mx (w:=w) hk o xs g n (i+1) s a8 a8 l;rw[List.range'_succ];simp only[Op.eqItems,bP,t,u,q,bV];cases p with
  |true=>simpa using r
  |false=>simp
theorem Bf: ∀(d m:Nat) (t:TypeId) (ks:List SK),d<=m->dU P d t=some ks->Da P m t ks
 |0,_,_,_,_,h=>by simp[dU]at h
 |d+1,0,_,_,hm,_=>by omega
 |d+1,m+1,t,ks,hm,h=>by
  intro w us vs b hb;obtain⟨g,i⟩:=sF hb;unfold dU at h;unfold valC;split at h
  .rename_i q a;split at h
   .obtain rfl:=aJ h;rw[a]
    match us,vs,hb with
    |[.int k x],[.int k' y],hb=>
     simp[bJ]at hb;obtain⟨rfl,rfl⟩:=hb;exact run_equalIn_int w m t k q x y a
    | .int _ _::_::_,_,hb=>simp at g
    |[.int _ _],.int _ _::_::_,hb=>simp at i
   .cases h
  .rename_i a;split at h
   .obtain rfl:=aJ h;rw[a]
    match us,vs,hb with
    |[.string x],[.string y],hb=>
     simp[bJ]at hb;obtain rfl:=hb;exact run_equalIn_string w m t x y a
    | .string _::_::_,_,hb=>simp at g
    |[.string _],.string _::_::_,hb=>simp at i
   .cases h
  .rename_i a;split at h
   .obtain rfl:=aJ h;rw[a]
    match us,vs,hb with
    |[.bool x],[.bool y],hb=>
     simp[bJ]at hb;obtain rfl:=hb;exact run_equalIn_bool w m t x y a
    | .bool _::_::_,_,hb=>simp at g
    |[.bool _],.bool _::_::_,hb=>simp at i
   .cases h
  .rename_i n e a;rw[a];split at h
   .rename_i o u;split at h
    .rename_i hc;obtain rfl:=aJ h;obtain⟨B,j⟩:=vB.1 hc.2.2;have A:(List.replicate n o).flatten.length=n*o.length:=by simp
     dsimp only;rw[run_equalIn_array w m us.toArray vs.toArray a j,<-hc.1.1,List.range_eq_range'];refine Mx u (Bf d m e o a8 u) us.toArray vs.toArray n 0 b (by simp;omega) (by simp;omega) ?_;rw[oL,ky,ky,dL (by simp;omega),dL (by simp;omega)];exact hb
    .cases h
   .cases h
  .rename_i s a;rw[a];split at h
   .rename_i v;split at h
    .rename_i r hk;split at h
     .rename_i hc;obtain rfl:=aJ h;have c:P.fieldsOf t=s:=by simp[Program.fieldsOf,a]
      dsimp only;rw[run_equalIn_struct w m t us.toArray vs.toArray (by rw[c];exact a) v.2.1,c];refine Mw us.toArray vs.toArray s.toList r 0 b (λf z=> ?_) (λf _ p l=>Bf d m f.type p a8 l) hk hc.2.1 (by rw[me,aw,g];exact bg _) (by rw[me,aw,i];exact bg _) ?_
      .have:=rW.1 v.1 f (Array.mem_toList_iff.1 z);simpa using this
      .rw[ky,ky,dL (qN g),dL (qN i)];exact hb
     .cases h
    .cases h
   .cases h
  .cases h
end
end Go.Bb
