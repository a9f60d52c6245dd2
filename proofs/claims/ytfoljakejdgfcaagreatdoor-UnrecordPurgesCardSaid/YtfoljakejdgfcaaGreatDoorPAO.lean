/- Part of a proof. -/
import Derived.Test.YtfoljakejdgfcaaGreatDoorPAL
import Derived.Test.YtfoljakejdgfcaaGreatDoorProg
import Derived.Deep.RegionHeld3
import Derived.Deep.RegionWith
import Derived.Deep.DrawnRows
import Derived.OwnWalk
import Derived.Lib.AppendZeros
import Derived.Shelf.RegionOpenPlain
import Derived.Deep.AppendSrc
import Derived.Lib.Builder
import Derived.Test.YtfoljakejdgfcaaGreatDoorPAM
set_option linter.unusedVariables false
set_option linter.unusedSimpArgs false
namespace Go.Proofs.Q
open Go Go.Bb Go.Proofs.Lg
open Go.Ab (D)
theorem kU: ∀(l:List Dg) (d:Dg),bN l d=true↔d∈l
 |[],d=>by simp[bN]
 |y::l,d=>by
  rw[bN];by_cases h:y=d
  ·subst h;simp
  ·rw[if_neg h,kU l d,bY];exact⟨.inr,fun a=>a.elim (fun e=>absurd e.symm h) id⟩
theorem qV(l:List Dg): ∀m:List Dg,gj l m=true↔ ∀d∈m,d∈l
 |[]=>by simp[gj]
 |d::m=>by
  rw[gj];by_cases h:bN l d=true
  ·rw[if_pos h,qV l m];have:=(kU l d).1 h;simp[this]
  ·rw[if_neg h];have:d∉l:=fun e=>h ((kU l d).2 e);simp[this]
theorem Jy{a b:Int}(h:cF a b=0):a=0∧b=0:=by
 unfold cF at h;split at h
 ·rename_i c;exact absurd h c
 ·rename_i c;exact⟨by simpa using c,h⟩
section
variable (H:aZ→Dg)
structure gK(s:aP):Prop where
 id: ∀x∈s,(dh H x.pat).2=0∧(dh H x.pat).1=x.id
 sorted:dA (bA s)
 needs: ∀x∈s,∀d∈bB x.pat,d∈bA s
 order:s.length≤(iU s).length
theorem GC: ∀(s:aP) (q:Option Dg),pQ H q s=0→(∀x∈s,(dh H x.pat).2=0∧(dh H x.pat).1=x.id)∧dA (q.toList++bA s)
 |[],q,_=>⟨by simp,by cases q<;>simp[bA,dA]⟩
 |x::s,q,h=>by
  rw[pQ]at h;split at h
  ·rename_i b;exact absurd h b
  rename_i b;split at h
  ·cases h
  rename_i e;split at h
  ·cases h
  rename_i f;obtain⟨g,i⟩:=GC s (some x.id) h;refine⟨fun y a=> ?_,?_⟩
  ·rcases bY.1 a with rfl|a
   ·exact⟨by simpa using b,by simpa using e⟩
   ·exact g y a
  ·have c:dA (bA (x::s)):=i;cases q with
   |none=>exact c
   |some q=>
    have d:cQ q x.id<0:=by
     simp at f;omega
    refine mQ.2 ⟨fun y a=> ?_,c⟩;rcases bY.1 a with rfl|a
    ·exact d
    ·exact oA d ((mQ.1 c).1 y a)
theorem H2{ids:List Dg}: ∀{s:aP},pV ids s=0→ ∀x∈s,∀d∈bB x.pat,d∈ids
 |[],_,x,a=>by cases a
 |y::s,h,x,a=>by
  rw[pV]at h;split at h
  ·rename_i b;rcases bY.1 a with rfl|a
   ·exact(qV _ _).1 b
   ·exact H2 h x a
  ·cases h
theorem D0{s:aP}(h:mZ H s=0):gK H s:=by
 unfold mZ at h;split at h
 ·cases h
 obtain⟨b,c⟩:=Jy h;obtain⟨d,a⟩:=Jy c;split at a
 ·cases a
 rename_i g;obtain⟨e,f⟩:=GC H s none b;exact⟨e,f,H2 d,by omega⟩
end
def lp(s:aP)(o:List Dg):Prop:= ∀(i:Nat) (d:Dg),o[i]?=some d→ ∃x∈s,x.id=d∧d∉o.take i∧ ∀e∈bB x.pat,e∈o.take i
def Q2(d:Dg):Option (Nat×Dg)→Bool
 |none=>true
 |some q=>decide (cQ d q.2<0)
theorem Qv(a:List Dg)(x:bU)(s:aP)(i:Nat)(k:Option (Nat×Dg)):mD a (x::s) i k=mD a s (i+1) (if(!bN a x.id&&(gj a (bB x.pat)&&Q2 x.id k))=true then some (i,x.id)else k):=by
 cases k<;>rfl
theorem IB{a:List Dg}: ∀{s:aP} {i:Nat} {k:Option (Nat×Dg)} {q:Nat×Dg},mD a s i k=some q→k=some q∨ ∃x∈s,x.id=q.2∧q.2∉a∧ ∀e∈bB x.pat,e∈a
 |[],i,k,q,h=>by cases k<;>exact .inl h
 |x::s,i,k,q,h=>by
  rw[Qv]at h;rcases IB h with h1|⟨y,h1,h2⟩
  ·split at h1
   ·rename_i b;simp only[eI,uD]at b;obtain rfl:=az h1;refine .inr ⟨x,by simp,rfl,fun hm=> ?_,(qV _ _).1 b.2.1⟩;have:=(kU a x.id).2 hm;rw[b.1]at this;cases this
   ·exact .inl h1
  ·exact .inr ⟨y,jS _ h1,h2⟩
theorem E8{s:aP}: ∀(f:Nat) (a:List Dg),lp s a→lp s (qj s f a)∧(qj s f a).length≤a.length+f
 |0,a,h=>⟨h,bh _⟩
 |f+1,a,h=>by
  rw[qj];cases m:mD a s 0 none with
  |none=>dsimp only;exact⟨h,by omega⟩
  |some q=>
   dsimp only;have e:=IB m;rcases e with e|⟨x,h1,h2,h3,h4⟩
   ·cases e
   ·have:=E8 (s:=s) f (a++[q.2]) fun i d b=>by
     rw[gY]at b;split at b
     ·rename_i l;obtain⟨y,o,p,r,t⟩:=h i d b;rw[gf a8];exact⟨y,o,p,r,t⟩
     ·rename_i j;have hi:i-a.length=0:=by
       cases k:i-a.length with
       |zero=>rfl
       |succ n=>rw[k]at b;simp at b
      rw[hi]at b;obtain rfl:q.2=d:=by simpa using b
      have c:i=a.length:=by omega
      rw[c,gf (bh _),py];exact⟨x,h1,h2,h3,h4⟩
    refine⟨this.1,?_⟩;have g:=this.2;simp at g;omega
theorem lp.nodup{s:aP}{o:List Dg}(h:lp s o):o.Nodup:=by
 refine List.pairwise_iff_getElem.2 fun i j hi b a e=> ?_;obtain⟨_,_,_,c,_⟩:=h j o[j] (bV b);exact c (bT (i:=i) (by rw[gb,if_pos a,bV hi,e]))
theorem E9{H:aZ→Dg}{s:aP}(h:gK H s):lp s (iU s)∧ ∀d,d∈iU s↔d∈bA s:=by
 have h0:lp s []:=fun i d a=>by simp at a
 obtain⟨e,k⟩:=E8 s.length [] h0;refine⟨e,fun d=>⟨fun a=> ?_,fun a=> ?_⟩⟩
 ·obtain⟨i,hi⟩:=jR a;obtain⟨x,c,rfl,_⟩:=e i d hi;exact j3 c
 ·apply iK;intro g;have f:=e.nodup;have b: ∀x∈d::iU s,x∈bA s:=by
   intro x c;rcases bY.1 c with rfl|c
   ·exact a
   ·obtain⟨i,hi⟩:=jR c;obtain⟨y,j,rfl,_⟩:=e i x hi;exact j3 j
  have:=tS (mb.2 ⟨g,f⟩) b;have l:(bA s).length=s.length:=aL _;have:=h.order;simp only[aU]at*;omega
theorem Dt: ∀{s:aP},(bA s).Nodup→ ∀x∈s,∀y∈s,x.id=y.id→x=y
 |[],_,x,a,_,_,_=>by cases a
 |z::s,h,x,a,y,hy,e=>by
  obtain⟨b,c⟩:=mb.1 (show(z.id::bA s).Nodup from h);have hm: ∀w∈s,w.id≠z.id:=fun w d e=>b (by rw[←e];exact j3 (f:=bU.id) d);rcases bY.1 a with h3|h3<;>rcases bY.1 hy with h4|h4
  ·rw[h3,h4]
  ·exact absurd (by rw[←e,h3]) (hm y h4)
  ·exact absurd (by rw[e,h4]) (hm x h3)
  ·exact Dt c x h3 y h4 e
theorem Qs{H:aZ→Dg}{s:aP}(h:gK H s): ∀x∈s,x.id∉bB x.pat:=by
 intro x a j;obtain⟨b,c⟩:=E9 h;obtain⟨i,hi⟩:=jR ((c x.id).2 (j3 (f:=(·.id)) a));obtain⟨y,k,e,d,g⟩:=b i x.id hi;have:=Dt h.sorted.nodup x a y k e.symm;subst this;exact d (g _ j)
def oP(d:Dg):aP→Bool
 |[]=>false
 |x::s=>if(decide (x.id≠d)&&bN (bB x.pat) d)=true then true else oP d s
def we(s:aP)(d:Dg):aP×Int:=if bM s d=none then([],7)else if oP d s=true then([],19)else(s.filter (fun x=> !decide (x.id=d)),0)
theorem Iy(d:Dg): ∀{s:aP},(∀x∈s,x.id∉bB x.pat)→oP d s=qf d s
 |[],_=>rfl
 |x::s,h=>by
  rw[oP,qf,Iy d fun y b=>h y (jS _ b)];by_cases a:bN (bB x.pat) d=true
  ·have hne:x.id≠d:=fun e=>h x (by simp) (by rw[e];exact(kU _ _).1 a);simp[a,hne]
  ·simp[a]
theorem XH{H:aZ→Dg}{s:aP}(h:gK H s)(d:Dg):we s d=lO s d:=by
 unfold we lO;rw[Iy d (Qs h)];have:kF [d] s=s.filter (fun x=> !decide (x.id=d)):=by
  unfold kF;congr 1;funext x;simp only[bN];by_cases e:d=x.id
  ·simp[e]
  ·have:x.id≠d:=fun h=>e h.symm;simp[e,this]
 rw[this]
end Go.Proofs.Q
namespace Go.Proofs.Q
open Go Go.Bb Go.Proofs.Lg
open Go.Ab (D)
theorem Fh: ∀{a b:List Dg},dA a→dA b→(∀x,x∈a↔x∈b)→a=b
 |[],[],_,_,_=>rfl
 |[],y::b,_,_,h=>absurd ((h y).2 (by simp)) (by simp)
 |x::a,[],_,_,h=>absurd ((h x).1 (by simp)) (by simp)
 |x::a,y::b,ha,hb,h=>by
  obtain⟨f,i⟩:=mQ.1 ha;obtain⟨g,j⟩:=mQ.1 hb;have e:x=y:=by
   apply iK;intro hne;have k:x∈b:=by
    rcases bY.1 ((h x).1 (by simp))with e|e
    ·exact absurd e hne
    ·exact e
   have l:y∈a:=by
    rcases bY.1 ((h y).2 (by simp))with e|e
    ·exact absurd e.symm hne
    ·exact e
   exact tF _ (oA (f y l) (g x k))
  subst e;congr 1;refine Fh i j fun z=> ?_;have d:=h z;simp only[bY]at d;constructor
  ·intro c;rcases d.1 (.inr c)with e|e
   ·subst e;exact absurd (f z c) (tF _)
   ·exact e
  ·intro c;rcases d.2 (.inr c)with e|e
   ·subst e;exact absurd (g z c) (tF _)
   ·exact e
def oO(s:aP)(d:Dg):List Dg:=bB ((bM s d).getD .zero)
def Path(s:aP):Nat→Dg→Dg→Prop
 |0,d,e=>d=e
 |n+1,d,e=> ∃c∈oO s d,Path s n c e
theorem Ir(s:aP): ∀(l a:List Dg),dA a→dA (ny s l a)∧ ∀x,x∈ny s l a↔x∈a∨ ∃d∈l,x∈oO s d
 |[],a,h=>⟨h,fun x=>by simp[ny]⟩
 |d::l,a,h=>by
  rw[ny];obtain⟨b,c⟩:=uy (bB ((bM s d).getD .zero)) a h;obtain⟨e,f⟩:=Ir s l _ b;refine⟨e,fun x=> ?_⟩;rw[f,c];simp only[bY,exists_eq_or_imp,oO];constructor
  ·rintro((h|h)|h)
   ·exact .inr (.inl h)
   ·exact .inl h
   ·exact .inr (.inr h)
  ·rintro(h|h|h)
   ·exact .inl (.inr h)
   ·exact .inl (.inl h)
   ·exact .inr h
theorem Ip(s:aP): ∀(n:Nat) (a:List Dg),dA a→dA (mq s n a)∧ ∀x,x∈mq s n a↔ ∃d∈a,∃j,j≤n∧Path s j d x
 |0,a,h=>⟨h,fun x=>by
  constructor
  ·intro m;exact⟨x,m,0,bh _,rfl⟩
  ·rintro⟨d,b,j,g,e⟩;obtain rfl:j=0:=by omega
   obtain rfl:d=x:=e;exact b⟩
 |n+1,a,h=>by
  rw[mq];obtain⟨i,f⟩:=Ir s a a h;obtain⟨k,l⟩:=Ip s n _ i;refine⟨k,fun x=> ?_⟩;rw[l];constructor
  ·rintro⟨d,b,j,g,e⟩;rcases(f d).1 b with b|⟨c,hc,b⟩
   ·exact⟨d,b,j,by omega,e⟩
   ·exact⟨c,hc,j+1,by omega,d,b,e⟩
  ·rintro⟨d,b,j,g,e⟩;cases j with
   |zero=>exact⟨d,(f d).2 (.inl b),0,by omega,e⟩
   |succ j=>
    obtain⟨c,hc,e⟩:=e;exact⟨c,(f c).2 (.inr ⟨d,b,hc⟩),j,by omega,e⟩
theorem vq: ∀{s:aP},(bA s).Nodup→ ∀x∈s,bM s x.id=some x.pat
 |[],_,x,a=>by cases a
 |y::s,h,x,a=>by
  rw[bM];split
  ·rename_i e;rw[Dt h y (by simp) x a e]
  ·rename_i e;rcases bY.1 a with h1|h1
   ·exact absurd (by rw[h1]) e
   ·exact vq (mb.1 (show(y.id::bA s).Nodup from h)).2 x h1
theorem Dm: ∀{s:aP} {d:Dg},bM s d=none↔d∉bA s
 |[],d=>by simp[bM,bA]
 |y::s,d=>by
  rw[bM];by_cases e:y.id=d
  ·rw[if_pos e];simp[bA,e]
  ·rw[if_neg e,Dm];have: ¬d=y.id:=fun h=>e h.symm;simp[bA,this]
theorem JO{H:aZ→Dg}{s:aP}(h:gK H s): ∀(j:Nat) (d e:Dg) (i:Nat),(iU s)[i]?=some d→Path s j d e→ ∃k,(iU s)[k]?=some e∧k+j≤i
 |0,d,e,i,hi,a=>by
  obtain rfl:d=e:=a;exact⟨i,hi,bh _⟩
 |j+1,d,e,i,hi,a=>by
  obtain⟨c,hc,a⟩:=a;obtain⟨g,r⟩:=E9 h;obtain⟨x,q,f,t,l⟩:=g i d hi;have p:oO s d=bB x.pat:=by
   unfold oO;rw[←f,vq h.sorted.nodup x q];rfl
  rw[p]at hc;obtain⟨k,b⟩:=jR (l c hc);rw[gb]at b;split at b
  ·rename_i o;obtain⟨m,hm,n⟩:=JO h j c e k b a;exact⟨m,hm,by omega⟩
  ·cases b
theorem Ux{H:aZ→Dg}{s:aP}(h:gK H s){j:Nat}{d e:Dg}(a:d∈bA s)(l:Path s j d e):j≤s.length∧e∈bA s:=by
 obtain⟨m,b⟩:=E9 h;obtain⟨i,hi⟩:=jR ((b d).2 a);obtain⟨k,f,g⟩:=JO h j d e i hi l;have n:=(aR.1 hi).1;have c:=(E8 (s:=s) s.length [] fun i d a=>by simp at a).2;have o:(iU s).length≤s.length:=by unfold iU;simpa using c
 exact⟨by omega,(b e).1 (bT f)⟩
theorem Iq{H:aZ→Dg}{s:aP}(h:gK H s){ids:List Dg}(hi: ∀d∈ids,d∈bA s):mr s ids=(mq s s.length (fu ids []),0)∧ ∀x,x∈(mr s ids).1↔ ∃d∈ids,∃j,Path s j d x:=by
 have e:mr s ids=(mq s s.length (fu ids []),0):=by
  unfold mr;rw[if_pos ((qV _ _).2 hi)]
 refine⟨e,fun x=> ?_⟩;rw[e];obtain⟨f,c⟩:=uy ids [] dA.nil;rw[(Ip s s.length _ f).2];constructor
 ·rintro⟨d,a,j,_,b⟩;exact⟨d,by simpa using(c d).1 a,j,b⟩
 ·rintro⟨d,a,j,b⟩;exact⟨d,(c d).2 (.inl a),j,(Ux h (hi d a) b).1,b⟩
theorem DO(L:List Dg)(d:Dg): ∀(ids a:List Dg),dA a→dA (nN L d ids a)∧ ∀x,x∈nN L d ids a↔(x=d∧ ∃e∈ids,e∈L)∨x∈a
 |[],a,h=>⟨h,fun x=>by simp[nN]⟩
 |e::ids,a,h=>by
  rw[nN];by_cases b:bN L e=true
  ·rw[if_pos b];obtain⟨g,i⟩:=wL a d h;obtain⟨c,f⟩:=DO L d ids _ g;have hm:=(kU L e).1 b;refine⟨c,fun x=> ?_⟩;rw[f,i];simp only[bY,exists_eq_or_imp,hm,true_or,and_true];constructor
   ·rintro(⟨h,_⟩|h|h)
    ·exact .inl h
    ·exact .inl h
    ·exact .inr h
   ·rintro(h|h)
    ·exact .inr (.inl h)
    ·exact .inr (.inr h)
  ·rw[if_neg b];obtain⟨c,f⟩:=DO L d ids _ h;have hm:e∉L:=fun hm=>b ((kU L e).2 hm);refine⟨c,fun x=> ?_⟩;rw[f];simp only[bY,exists_eq_or_imp,hm,false_or]
theorem Is(s:aP)(ids:List Dg): ∀(r:aP) (a:List Dg),dA a→dA (mL s ids r a)∧ ∀x,x∈mL s ids r a↔(∃y∈r,y.id=x∧ ∃e∈ids,e∈(mr s [y.id]).1)∨x∈a
 |[],a,h=>⟨h,fun x=>by simp[mL]⟩
 |y::r,a,h=>by
  rw[mL];obtain⟨b,c⟩:=DO (mr s [y.id]).1 y.id ids a h;obtain⟨d,f⟩:=Is s ids r _ b;refine⟨d,fun x=> ?_⟩;rw[f,c];simp only[bY,exists_eq_or_imp];constructor
  ·rintro(h|⟨h,g⟩|h)
   ·exact .inl (.inr h)
   ·exact .inl (.inl ⟨h.symm,g⟩)
   ·exact .inr h
  ·rintro((⟨h,g⟩|h)|h)
   ·exact .inr (.inl ⟨h.symm,g⟩)
   ·exact .inl h
   ·exact .inr (.inr h)
theorem Fw{H:aZ→Dg}{s:aP}(h:gK H s){ids:List Dg}(hi: ∀d∈ids,d∈bA s):(ej s ids).2=0∧dA (ej s ids).1∧ ∀x,x∈(ej s ids).1↔x∈bA s∧ ∃e∈ids,∃j,Path s j x e:=by
 have a:ej s ids=(mL s ids s [],0):=by unfold ej;rw[if_pos ((qV _ _).2 hi)]
 obtain⟨k,l⟩:=Is s ids s [] dA.nil;rw[a];refine⟨rfl,k,fun x=> ?_⟩;rw[l];constructor
 ·rintro(⟨y,g,rfl,e,a,b⟩|h)
  ·have c:y.id∈bA s:=j3 (f:=bU.id) g;obtain⟨d,m,j,b⟩:=((Iq h (ids:=[y.id]) (by simpa using c)).2 e).1 b;obtain rfl:d=y.id:=by simpa using m
   exact⟨c,e,a,j,b⟩
  ·cases h
 ·rintro⟨i,e,a,j,b⟩;obtain⟨y,g,rfl⟩:=cy.1 i;exact .inl ⟨y,g,rfl,e,a,((Iq h (ids:=[y.id]) (by simpa using i)).2 e).2 ⟨y.id,by simp,j,b⟩⟩
theorem UK{H:aZ→Dg}{s:aP}(h:gK H s){ids:List Dg}(hi: ∀d∈ids,d∈bA s):ji s ids=(kF (ej s ids).1 s,(ej s ids).1,0):=by
 unfold ji;rw[if_neg,if_neg]
 ·rw[(Fw h hi).1];simp
 ·intro a;rw[List.any_eq_true]at a;obtain⟨d,b,c⟩:=a;exact Dm.1 (of_decide_eq_true c) (hi d b)
theorem UJ{s:aP}{ids:List Dg}{d:Dg}(a:d∈ids)(b:d∉bA s):ji s ids=([],[],7):=by
 unfold ji;rw[if_pos];rw[List.any_eq_true];exact⟨d,a,decide_eq_true (Dm.2 b)⟩
end Go.Proofs.Q
namespace Go.Proofs.Lh
open Go Go.Ab Go.Bb Go.RowKit Go.Proofs.Lg
theorem enters_fn'{P:Program}{f:FuncId}{fn:Func}{c:Code}(a:P.funcs[f]?=some fn)(hb:fn.body=some c)(d:(fn.name== "runtime.NumGoroutine")=false):Enters P f:=fun args w=>by
 have b:fn.name≠ "runtime.NumGoroutine":=by simpa using d
 simp[callFunc,a,b,hb,mark]
section
variable {P:Program}
theorem XR(w:World)(t l o e:TypeId)(i:TypeInfo)(n:P.underlying t=some (.slice e))(hi:P.info? e=some i)
  (g a b:Nat) (cur:Array Value) (fz:Nat×Nat) (hg:w.heap[g]?=some (.cells cur e fz)) (j:fz.2≤a*i.size∨cur.size≤fz.1)
  (x:Value) (m:Nat) (news:List Value) (h:Src P i.size l x m news w) (c:a+m≤b) (d:a*i.size+news.length≤cur.size):
  (Builtin.append_ #[t,l] o #[.slice (some ⟨g,0,none⟩) a b,x]).run P w=
   .ok (.slice (some ⟨g,0,none⟩) (a+m) b) (w.setRow g (cur.toList.take (a*i.size)++news++cur.toList.drop (a*i.size+news.length)).toArray):=by
 have f:=F2 P g (a*i.size) e fz news 0 cur w hg (by simpa using j) (by simpa using d) h.one;simp only[ay]at f;rcases h.kind with⟨p,k⟩|k<;>simp[Builtin.append_,run_underlying n,run_underlying k,sizeOf,typeInfo,hi,h.len,c,h.cells,Addr.add_lit,f]
def Cn(w w':World)(B e sz n m:Nat)(v a:Value)(xs:List Value):Prop:=
 (dO w' B e sz a (n+m) xs)∧Below B w w'∧((∃g,a.ownBlock=some g∧v.ownBlock=some g∧w.grownBy w' (some g))∨(a.ownBlock=some w.heap.size∧w.heap.size<w'.heap.size∧w.grownBy w' none))
theorem XP(w:World)(base:Nat)(t K L e:TypeId)(i:TypeInfo)(z:Value)(E:P.underlying t=some (.slice e))(hi:P.info? e=some i)(V:i.zero=some z)(R:z.cells.size=i.size)
  (v:Value) (n:Nat) (xs:List Value) (a:dO w base e i.size v n xs) (x:Value) (m:Nat) (news:List Value) (y:Src P i.size K x m news w)
  (M:n+m≤9223372036854775807) (hbytes:(n+m)*i.bytes≤140737488355328) (l:base≤w.heap.size):
  ∃A w',(Builtin.append_ #[t,K] L #[v,x]).run P w= .ok A w'∧((m=0∧A=v∧w'=w)∨(0<m∧Cn w w' base e i.size n m v A (xs++news)))∧
   (0<m→w.ownsRow base e i.size v n xs→w'.ownsRow base e i.size A (n+m) (xs++news)):=by
 obtain⟨a0,o,rfl⟩:=tY a;have p:=JB a;have O:=y.newsLen;by_cases hm:m=0
 ·subst hm;have H:news=[]:=fx (by rw[O];simp);subst H;refine⟨_,w,?_,.inl ⟨rfl,rfl,rfl⟩,fun h=>by omega⟩;have hc:=y.cells;rcases y.kind with⟨W,s⟩|s
  ·cases a0 with
   |none=>simp[Builtin.append_,run_underlying E,run_underlying s,sizeOf,typeInfo,hi,y.len,p,hc]
   |some a0=>simp[Builtin.append_,run_underlying E,run_underlying s,sizeOf,typeInfo,hi,y.len,p,hc,storeCells]
  ·cases a0 with
   |none=>simp[Builtin.append_,run_underlying E,run_underlying s,sizeOf,typeInfo,hi,y.len,p,hc]
   |some a0=>simp[Builtin.append_,run_underlying E,run_underlying s,sizeOf,typeInfo,hi,y.len,p,hc,storeCells]
 ·have b:(xs++news).length=(n+m)*i.size:=by rw[aN,a.1,O,eR]
  have B: ∀(f:Nat),f<n+m→
    (w.drew.alloc (.cells ((xs++news).toArray++Builtin.zeroCells z.cells (grownCap w (n+m) f e-(n+m))) e)).ownsRow base e i.size
     (.slice (some ⟨w.heap.size,0,none⟩) (n+m) (grownCap w (n+m) f e)) (n+m) (xs++news)∧
    w.grownBy (w.drew.alloc (.cells ((xs++news).toArray++Builtin.zeroCells z.cells (grownCap w (n+m) f e-(n+m))) e)) none:=by
   intro f X;have N:=grownCap_ge w (n+m) f e;have q:grownCap w (n+m) f e≤maxLen:=grownCap_le_maxLen w (n+m) f e (by unfold maxLen;exact M);refine⟨⟨b,.inr ⟨w.heap.size,_,_,rfl,l,heap_alloc_new w.drew _,N,q,?_,?_⟩⟩,⟨rfl,rfl,rfl,by simp,fun k s _=>Below.heap_alloc w.drew _ k (by simpa using s)⟩⟩
   ·simp only[Array.size_append,px,size_zeroCells,R,b,←eR];congr 1;omega
   ·simp only[qM];rw[←b];exact List.take_left
  have key: ∀(c:o<n+m),(Builtin.firstCells i.size n (.slice a0 n o)).run P w.drew= .ok xs.toArray w.drew→(w.ownsRow base e i.size (.slice a0 n o) n xs→True)→ ∃A w',(Builtin.append_ #[t,K] L #[.slice a0 n o,x]).run P w= .ok A w'∧((m=0∧A= .slice a0 n o∧w'=w)∨(0<m∧Cn w w' base e i.size n m (.slice a0 n o) A (xs++news)))∧
    (0<m→w.ownsRow base e i.size (.slice a0 n o) n xs→w'.ownsRow base e i.size A (n+m) (xs++news)):=fun c I _=>by
   have Q:=run_append_grow_src (P:=P) w t K L e i z E hi V a0 n o xs I x m news y c a8 (growslice_fits c hbytes);have r:=B o c;exact⟨_,_,Q,.inr ⟨by omega,dO.of r.1,(Below.refl _ _).grown r.2 l (by simp),.inr ⟨rfl,by simp,r.2⟩⟩,fun _ _=>r.1⟩
  rcases a.2 with⟨D,rfl⟩|⟨g,cap,cur,fz,D,hbg,hg,hnc,q,hcs,htake,hfz⟩
  ·cases D;have U:xs=[]:=fx (by simpa using a.1);subst U;exact key a8 (run_firstCells_none w.drew i.size 0 0 0) fun _=>trivial
  ·cases D;by_cases d:n+m≤o
   ·have F:n*i.size+news.length≤cur.size:=by rw[O,hcs,←eR];exact jU _ d
    have Q:=XR (P:=P) w t K L e i E hi g n o cur fz hg hfz x m news y d F;have G:w.grownBy (w.setRow g (cur.toList.take (n*i.size)++news++cur.toList.drop (n*i.size+news.length)).toArray) (some g):=⟨rfl,rfl,rfl,by simp,fun k _ s=>setRow_other w g k _ (fun e=>s (by simp[e]))⟩
    have C:(cur.toList.take (n*i.size)++news++cur.toList.drop (n*i.size+news.length)).toArray.size=cur.size:=by
     simp only[px,aN,du,ax,jM];omega
    have J:(cur.toList.take (n*i.size)++news++cur.toList.drop (n*i.size+news.length)).toArray.toList.take ((n+m)*i.size)=xs++news:=by
     rw[htake,←b];exact List.take_left
    refine⟨_,_,Q,.inr ⟨by omega,⟨b,.inr ⟨g,o,_,fz,rfl,hbg,setRow_heap w g cur _ e _ hg,d,q,C.trans hcs,J,?_⟩⟩,(Below.refl _ _).grown G l (by simp;exact hbg),.inl ⟨g,rfl,rfl,G⟩⟩,fun _ S=>⟨b,.inr ⟨g,o,_,rfl,hbg,setRow_heap w g cur _ e _ ?_,d,q,C.trans hcs,J⟩⟩⟩
    ·rw[C];rcases hfz with hfz|hfz
     ·exact .inl (eS hfz (jU _ (Nat.le_add_right n m)))
     ·exact .inr hfz
    ·rcases S.2 with⟨D,_⟩|⟨g',cap',cur',D,_,hg',_⟩
     ·cases D
     ·cases D;rw[hg]at hg';have:=az hg';injection this with e1 _ e3
      rw[hg,e3]
   ·exact key a8 (run_firstCells_some w.drew i.size n ⟨g,0,none⟩ n o xs a.1 (fun j u T=>by rw[World.cell?_drew];exact a.cells (g:=g) rfl j u T)) fun _=>trivial
end
end Go.Proofs.Lh
namespace Go.Proofs.Q
open Go Go.Bb Go.Proofs.Lg
open Go.Ab (D RD)
theorem _root_.Go.Bb.ShsOk.split{a b:List Sh}{ds:List D}(h:ShsOk (a++b) ds): ∃x y,ds=x++y∧ShsOk a x∧ShsOk b y:=by
 have f:=h.1;rw[aN]at f;refine⟨ds.take a.length,ds.drop a.length,(ll _ _).symm,⟨by rw[du];omega,fun i sh d e c=> ?_⟩,⟨by rw[ax];omega,fun i sh d e c=> ?_⟩⟩
 ·have hi:=(aR.1 e).1;rw[gb,if_pos hi]at c;exact h.2 i sh d (by rw[eQ hi];exact e) c
 ·rw[fB]at c;exact h.2 (a.length+i) sh d (by rw[gZ a8,mR];exact e) c
theorem _root_.Go.Bb.ShsOk.cons{a:Sh}{b:List Sh}{ds:List D}(h:ShsOk (a::b) ds): ∃x y,ds=x::y∧ShOk a x∧ShsOk b y:=by
 obtain⟨x,y,rfl,c,d⟩:=ShsOk.split (a:=[a]) h
 match x,c.1 with
 |[x],_=>exact⟨x,y,rfl,c.2 0 a x rfl rfl,d⟩
theorem _root_.Go.Bb.ShsOk.nil{ds:List D}(h:ShsOk [] ds):ds=[]:=List.length_eq_zero_iff.1 h.1
theorem _root_.Go.Bb.ShOk.int_inv{k:IntKind}{d:D}(h:ShOk (.int k) d): ∃n,d= .sc (.int k n)∧(Lit.int k n).wf=true:=by cases h;exact⟨_,rfl,by assumption⟩
theorem _root_.Go.Bb.ShOk.str_inv{d:D}(h:ShOk .str d): ∃b:ByteArray,d= .sc (.string b)∧b.size≤maxLen:=by cases h;exact⟨_,rfl,by assumption⟩
theorem _root_.Go.Bb.ShOk.sl_inv{sz:Nat}{shs:List Sh}{d:D}(h:ShOk (.sl sz shs) d): ∃rows,d= .sl sz rows∧rows.length≤maxLen∧ ∀r∈rows,ShsOk shs r:=by
 cases h with
 |sl b c e=>exact⟨_,rfl,b,fun r a=>⟨c r a,fun i sh d f g=>e r i sh d a f g⟩⟩
theorem F0{α:Type}{f:α→List D}{ok:α→Prop}: ∀(rows:List (List D)),(∀r∈rows,∃x,r=f x∧ok x)→ ∃l:List α,rows=l.map f∧ ∀x∈l,ok x
 |[],_=>⟨[],rfl,by simp⟩
 |r::rows,h=>by
  obtain⟨x,rfl,d⟩:=h r (by simp);obtain⟨l,rfl,b⟩:=F0 rows fun r c=>h r (jS _ c);refine⟨x::l,rfl,fun y a=> ?_⟩;rcases bY.1 a with rfl|a
  ·exact d
  ·exact b y a
theorem YO{n:Int}(h:(Lit.int .u8 n).wf=true):0≤n∧n<256:=by
 simp[Lit.wf,IntKind.min,IntKind.max,IntKind.bits,IntKind.signed]at h;omega
def qD:List Sh:=List.replicate 32 (.int .u8)
def sF:List Sh:=qD++[.int .i64]
def Fa:List Sh:= .int .i64::(sF++(.int .i64::(sF++(.str:: .int .i64:: .str::(sF++(sF++[.sl 1 [.str],.sl 33 sF]))))))
def La:List Sh:=[.str,.str,.int .i64,.sl 32 qD,.sl 139 Fa]
def Lb:List Sh:=qD++La
def Fb:Sh:= .sl 37 Lb
structure wT(c:af):Prop where
 name:c.name.size≤maxLen
 data:c.data.size≤maxLen
 lines:c.lines.length≤maxLen
 line: ∀s∈c.lines,s.size≤maxLen
 over:c.over.length≤maxLen
structure oq(p:b9):Prop where
 author:p.author.size≤maxLen
 message:p.message.size≤maxLen
 deps:p.deps.length≤maxLen
 changes:p.changes.length≤maxLen
 chg: ∀c∈p.changes,wT c
structure sW(s:aP):Prop where
 len:s.length≤maxLen
 pat: ∀x∈s,oq x.pat
theorem I0: ∀(n:Nat) (ds:List D),ShsOk (List.replicate n (.int .u8)) ds→ ∃l:List Int,ds=l.map (fun b=> .sc (.int .u8 b))∧l.length=n∧ ∀b∈l,0≤b∧b<256
 |0,ds,h=>⟨[],h.nil,rfl,by simp⟩
 |n+1,ds,h=>by
  obtain⟨x,y,rfl,c,d⟩:=h.cons;obtain⟨m,rfl,f⟩:=c.int_inv;obtain⟨l,rfl,e,hb⟩:=I0 n y d;refine⟨m::l,rfl,by simp[e],fun b a=> ?_⟩;rcases bY.1 a with rfl|h
  ·exact YO f
  ·exact hb b h
theorem vb{ds:List D}(h:ShsOk qD ds): ∃d:Dg,ds=aq d:=by
 obtain⟨l,rfl,a,hb⟩:=I0 32 ds h;exact⟨⟨l,a,hb⟩,rfl⟩
theorem vv{ds:List D}(h:ShsOk sF ds): ∃x:ar,ds=ab x:=by
 obtain⟨x,y,rfl,a,b⟩:=h.split;obtain⟨d,rfl⟩:=vb a;obtain⟨z,w,rfl,c,e⟩:=b.cons;obtain rfl:=e.nil;obtain⟨n,rfl,_⟩:=c.int_inv;exact⟨⟨d,n⟩,rfl⟩
theorem Yz{d:D}(h:ShOk (.sl 1 [.str]) d): ∃l:List aZ,d= .sl 1 (l.map eG)∧l.length≤maxLen∧ ∀s∈l,s.size≤maxLen:=by
 obtain⟨rows,rfl,g,i⟩:=h.sl_inv;obtain⟨l,rfl,a⟩:=F0 (f:=eG) (ok:=fun s=>s.size≤maxLen) rows fun r h=>by
  obtain⟨x,y,rfl,c,e⟩:=(i r h).cons;obtain rfl:=e.nil;obtain⟨b,rfl,hb⟩:=c.str_inv;exact⟨b,rfl,hb⟩
 exact⟨l,rfl,by simpa using g,a⟩
theorem C1{α:Type}{f:α→List D}{ok:α→Prop}{sz:Nat}{shs:List Sh}{d:D}(b: ∀ds,ShsOk shs ds→ ∃x,ds=f x∧ok x)(h:ShOk (.sl sz shs) d): ∃l:List α,d= .sl sz (l.map f)∧l.length≤maxLen∧ ∀x∈l,ok x:=by
 obtain⟨rows,rfl,c,e⟩:=h.sl_inv;obtain⟨l,rfl,a⟩:=F0 (f:=f) (ok:=ok) rows fun r h=>b r (e r h);exact⟨l,rfl,by simpa using c,a⟩
theorem Pu{d:D}(h:ShOk (.sl 33 sF) d): ∃l:List ar,d= .sl 33 (l.map ab)∧l.length≤maxLen:=by
 obtain⟨l,a,b,_⟩:=C1 (f:=ab) (ok:=fun _=>True) (fun ds h=>let⟨x,h⟩:=vv h;⟨x,h,trivial⟩) h;exact⟨l,a,b⟩
theorem Da{d:D}(h:ShOk (.sl 32 qD) d): ∃l:List Dg,d= .sl 32 (l.map aq)∧l.length≤maxLen:=by
 obtain⟨l,a,b,_⟩:=C1 (f:=aq) (ok:=fun _=>True) (fun ds h=>let⟨x,h⟩:=vb h;⟨x,h,trivial⟩) h;exact⟨l,a,b⟩
theorem NP{ds:List D}(h:ShsOk Fa ds): ∃c:af,ds=aQ c∧wT c:=by
 unfold Fa at h;obtain⟨x0,L,rfl,h0,f⟩:=h.cons;obtain⟨kind,rfl,_⟩:=h0.int_inv;obtain⟨B,M,rfl,p,g⟩:=f.split;obtain⟨file,rfl⟩:=vv p;obtain⟨C,N,rfl,q,i⟩:=g.cons;obtain⟨type,rfl,_⟩:=q.int_inv;obtain⟨E,O,rfl,r,j⟩:=i.split;obtain⟨parent,rfl⟩:=vv r;obtain⟨F,P,rfl,s,k⟩:=j.cons;obtain⟨name,rfl,o4⟩:=s.str_inv;obtain⟨G,Q,rfl,t,l⟩:=k.cons;obtain⟨mode,rfl,_⟩:=t.int_inv
 obtain⟨H,R,rfl,u,m⟩:=l.cons;obtain⟨data,rfl,o6⟩:=u.str_inv;obtain⟨I,S,rfl,v,n⟩:=m.split;obtain⟨after,rfl⟩:=vv v;obtain⟨J,T,rfl,w,o⟩:=n.split;obtain⟨before,rfl⟩:=vv w;obtain⟨K,U,rfl,x,a⟩:=o.cons;obtain⟨lines,rfl,o9,y⟩:=Yz x;obtain⟨z,A,rfl,d,b⟩:=a.cons;obtain⟨over,rfl,e⟩:=Pu d;obtain rfl:=b.nil
 exact⟨⟨kind,file,type,parent,name,mode,data,after,before,lines,over⟩,by simp only[aQ,List.singleton_append,ma,bn],o4,o6,o9,y,e⟩
theorem Ua{ds:List D}(h:ShsOk La ds): ∃p:b9,ds=bk p∧oq p:=by
 obtain⟨x0,r,rfl,h0,a⟩:=h.cons;obtain⟨author,rfl,o0⟩:=h0.str_inv;obtain⟨m,s,rfl,g,b⟩:=a.cons;obtain⟨message,rfl,o1⟩:=g.str_inv;obtain⟨n,t,rfl,i,c⟩:=b.cons;obtain⟨time,rfl,_⟩:=i.int_inv;obtain⟨o,u,rfl,j,d⟩:=c.cons;obtain⟨deps,rfl,o3⟩:=Da j;obtain⟨q,v,rfl,k,e⟩:=d.cons;obtain⟨changes,rfl,o4,l⟩:=C1 (f:=aQ) (ok:=wT) (fun ds h=>NP h) k;obtain rfl:=e.nil
 exact⟨⟨author,message,time,deps,changes⟩,rfl,o0,o1,o3,o4,l⟩
theorem Yy{ds:List D}(h:ShsOk Lb ds): ∃x:bU,ds=b8 x∧oq x.pat:=by
 obtain⟨x,y,rfl,a,b⟩:=h.split;obtain⟨d,rfl⟩:=vb a;obtain⟨p,rfl,c⟩:=Ua b;exact⟨⟨d,p⟩,rfl,c⟩
theorem L9{d:D}(h:ShOk Fb d): ∃s:aP,d= .sl 37 (s.map b8)∧sW s:=by
 obtain⟨s,a,b,c⟩:=C1 (f:=b8) (ok:=fun x=>oq x.pat) (fun ds h=>Yy h) h;exact⟨s,a,b,c⟩
end Go.Proofs.Q
