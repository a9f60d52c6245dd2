/- Lemmas. -/
import Derived.Test.YtellfinifjmloaaGreatDoorPAH
import Derived.WideShapes
import Derived.Deep.RegionHeld3
import Derived.Deep.RegionWith
import Derived.Deep.DrawnRows
import Derived.OwnWalk
import Derived.Lib.AppendZeros
import Derived.Shelf.RegionOpenPlain
import Derived.Deep.AppendSrc
import Derived.Lib.Builder
set_option linter.unusedVariables false
set_option linter.unusedSimpArgs false
namespace Go.Proofs.Q
open Go Go.Bb Go.Proofs.Lg
open Go.Ab (D)
def str(l:List UInt8):bh:=⟨l.toArray⟩
def qa(n:Nat):UInt8:=UInt8.ofNat (48+n % 10)
def l8:Nat→Nat→List UInt8
 |0,n=>[qa n]
 |f+1,n=>if n<10 then[qa n]else l8 f (n/10)++[qa n]
def dec(n:Int):bh:=if n<0 then str (45::l8 19 (-n).toNat)else str (l8 19 n.toNat)
def fj:Nat→Sx→Prop
 |0,_=>False
 |d+1,.mk b a l=>(b=false∧l=[]∧a.size≤65536)∨(b=true∧a=⟨#[]⟩∧ ∀x∈l,fj d x)
def bJ:Nat→Sx→Nat
 |0,_=>0
 |d+1,.mk b _ l=>if b then 1+(l.map (bJ d)).sum else 1
def fZ:Nat→Sx→bh
 |0,_=>⟨#[]⟩
 |d+1,.mk b a l=>if b then l.foldl (fun s x=>s++fZ d x) (str [40])++str [41]else dec a.size++str [58]++a
def lZ(x:Sx):bh:=fZ 6 x
def dE(a:bh):Sx:= .mk false a []
def cP(l:List Sx):Sx:= .mk true ⟨#[]⟩ l
def cp(n:Int):Sx:=if n< -1099511627776∨1099511627776<n then .mk false ⟨#[]⟩ []else dE (dec n)
def zO(d:Dg):bh:=str (d.l.map fun b=>UInt8.ofNat b.toNat)
def gm(d:Dg):Sx:=if isZero d then dE ⟨#[]⟩else dE (zO d)
def bH(x:af):Sx:=cP [gm x.p,cp x.n]
def eH(l:List af):Sx:=cP (l.map bH)
def bY(c:aC):Sx:=cP<|
 [cp c.kind]++(if 2≤c.kind∧c.kind≤6 then[bH c.file]else[])++
 (if c.kind=1 then[cp c.type]else if c.kind=2 then[bH c.parent,dE c.name]else if c.kind=3 then[cp c.mode]else if c.kind=4 then[dE c.data]else if c.kind=5∨c.kind=6 then[bH c.after,bH c.before]else[])++
 (if c.kind=5 then[cP (c.lines.map dE)]else if c.kind=1 then[]else[eH c.over])
def ll(p:aX):Sx:=cP [dE (str [113,117,105,108,116,49]),dE p.author,dE p.message,cp p.time,cP (p.deps.map gm),cP (p.changes.map bY)]
def pc(p:aX):bh×Int:=if 65536<(lZ (ll p)).size then(⟨#[]⟩,4)else(lZ (ll p),0)
def cV(p:aX):bh×Int:=if(dw p).2≠0 then(⟨#[]⟩,(dw p).2)else pc p
def iZ(p:aX):Int:=(cV p).2
def whole(x:af)(d:Dg):af:=if isZero x.p=true∧0≤x.n then{x with p:=d}else x
def fF:List af→List af→List af
 |[],l=>l
 |x::r,l=>fF r (nX l x)
def r8(d:Dg)(x:au):au:=
 let x:={x with id:={x.id with p:=d}}
 let x:=if x.kind≠7 then{x with file:=whole x.file d}else x;let x:=if x.kind=2 then{x with parent:=whole x.parent d}else x;let x:=if x.kind=6 then{x with fro:=whole x.fro d,til:=whole x.til d}else x
 {x with over:=fF (x.over.map (whole · d)) []}
def jT(d:Dg):List Dg→Nat→Nat
 |[],k=>k
 |y::l,k=>if bS y d<0 then jT d l (k+1)else k
def lL(l:List Dg)(d:Dg):List Dg:=if l[jT d l 0]?=some d then l else l.take (jT d l 0)++d::l.drop (jT d l 0)
def mE:List Dg→List Dg→List Dg
 |[],l=>l
 |d::r,l=>mE r (lL l d)
def mF:List af→List Dg→List Dg
 |[],l=>l
 |x::r,l=>mF r (if isZero x.p then l else lL l x.p)
def kJ(c:aC):List af:=c.file::c.parent::c.after::c.before::c.over
def ni:List aC→List Dg→List Dg
 |[],l=>l
 |c::r,l=>ni r (mF (kJ c) l)
def cD(p:aX):List Dg:=if iZ p≠0 then[]else ni p.changes (mE p.deps [])
def ra:List aC→Int→Option Int
 |[],n=>some n
 |c::l,n=>if uW c.lines=true∨40<c.over.length then none else ra l (W (W (n+c.name.size)+c.data.size))
def jC(p:aX):Bool:=match ra p.changes (W (p.author.size+p.message.size))with
 |none=>true
 |some n=>decide (3000<n)||(decide (20<p.deps.length)||decide (20<p.changes.length))
section
variable (H:bh→Dg)
def bq(p:aX):Dg×Int:=if(cV p).2≠0 then(.zero,(cV p).2)else(H (cV p).1,0)
def cT(p:aX):List au×Int:=if(bq H p).2≠0 then([],(bq H p).2)else((dw p).1.map (r8 (bq H p).1),0)
abbrev aD:=List bT
def cW:List Dg→Dg→Bool
 |[],_=>false
 |y::l,d=>if y=d then true else cW l d
def ch:aD→Dg→Option aX
 |[],_=>none
 |x::s,d=>if x.id=d then some x.pat else ch s d
def bs(s:aD):List Dg:=s.map (·.id)
def gZ(l:List Dg):List Dg→Bool
 |[]=>true
 |d::r=>if cW l d then gZ l r else false
def jK(out:List Dg):aD→Nat→Option (Nat×Dg)→Option (Nat×Dg)
 |[],_,k=>k
 |x::s,i,k=>jK out s (i+1) (if !cW out x.id&&(gZ out (cD x.pat)&&(match k with|none=>true|some q=>decide (bS x.id q.2<0)))then some (i,x.id)else k)
def kC(s:aD):Nat→List Dg→List Dg
 |0,out=>out
 |f+1,out=>match jK out s 0 none with
  |none=>out
  |some q=>kC s f (out++[q.2])
def dN(s:aD):List Dg:=kC s s.length []
def oR(s:aD)(x:af):Option au:=if x.n<0∨((cT H ((ch s x.p).getD .zero)).1.length:Int)≤x.n then none else(cT H ((ch s x.p).getD .zero)).1[x.n.toNat]?
def iV(s:aD)(x:af)(b:au→Bool):Int:=if isZero x.p then 0 else match oR H s x with
 |none=>7
 |some a=>if b a then 0 else 8
def lX(x:au):Bool:=decide (x.kind=1)&&decide (x.type=4)
def nb(s:aD)(x file:af)(id:Dg):Int:=if isZero x.p=true∨x=file then 0 else iV H s x (nT (whole file id))
def px(s:aD)(c:aC)(id:Dg):List af→Int
 |[]=>0
 |x::l=>bQ (iV H s x (pf c.kind (whole c.file id))) (px s c id l)
def oY(s:aD)(c:aC)(id:Dg):Int:=
 bQ (iV H s c.file (fE c.kind))<|bQ (iV H s c.parent lX)<|bQ (nb H s c.after c.file id)<|bQ (nb H s c.before c.file id)<|px H s c id c.over
def np(s:aD)(id:Dg):List aC→Int
 |[]=>0
 |c::l=>bQ (oY H s c id) (np s id l)
def qR:Option Dg→aD→Int
 |_,[]=>0
 |p,x::s=>if(bq H x.pat).2≠0 then(bq H x.pat).2 else if(bq H x.pat).1≠x.id then 13 else if(p.map fun q=>decide (0≤bS q x.id))=some true then 9 else qR (some x.id) s
def qW(a:List Dg):aD→Int
 |[]=>0
 |x::s=>if gZ a (cD x.pat)then qW a s else 19
def vI(s:aD):aD→Int
 |[]=>0
 |x::r=>bQ (np H s x.id x.pat.changes) (vI s r)
def oZ(s:aD):Int:=
 if 400<s.length then 4 else bQ (qR H none s)<|bQ (qW (bs s) s)<|if(dN s).length<s.length then 20 else vI H s s
def putAt(d:Dg):aD→Nat→Nat
 |[],k=>k
 |y::l,k=>if bS y.id d<0 then putAt d l (k+1)else k
def iK(s:aD)(x:bT):aD:=s.take (putAt x.id s 0)++x::s.drop (putAt x.id s 0)
def bP(s:aD)(p:aX):aD×Dg×Int:=
 if(bq H p).2≠0 then([],.zero,(bq H p).2)
 else match ch s (bq H p).1 with
 |some q=>if p=q then([],.zero,6)else([],.zero,14)
 |none=>if gZ (bs s) (cD p)=false then([],.zero,19)
  else if np H s (bq H p).1 p.changes≠0 then([],.zero,np H s (bq H p).1 p.changes)
  else if 400≤s.length then([],.zero,4)
  else(iK s ⟨(bq H p).1,p⟩,(bq H p).1,0)
def uY:List aC→Int→Int
 |[],n=>n
 |c::l,n=>uY l (W (W (W (n+1)+c.lines.length)+c.over.length))
def rb(a:Nat):aD→Nat→Int→Option Int
 |[],_,n=>some n
 |x::s,i,n=>if i≤a then(if jC x.pat then none else rb a s (i+1) (uY x.pat.changes n))else some n
def uZ(s:aD)(a:Nat):Bool:=match rb a s 0 0 with
 |none=>true
 |some n=>decide (a<s.length)||decide (300<n)
def pg(s:aD):Bool:=uZ s 8
def ia(s:aD):Bool:= !pg s&&decide (oZ H s=0)
end
end Go.Proofs.Q
namespace Go.Proofs.Q
open Go Go.Bb Go.RowKit Go.Proofs.Lg
open Go.Ab (D RD)
theorem IA(b:ByteArray): ∀(n i:Nat) (r:List UInt8),b.size-i=n→ByteArray.toList.loop b i r=r.reverse++b.data.toList.drop i
 |0,i,r,h=>by
  unfold ByteArray.toList.loop;have a:b.data.toList.length=b.size:=gz;rw[if_neg a8,gC a8,bg]
 |n+1,i,r,h=>by
  unfold ByteArray.toList.loop;have a:b.data.toList.length=b.size:=gz;have hi:i<b.data.toList.length:=by omega
  rw[if_pos a8,IA b n (i+1) _ a8,kT hi,wk,bj];congr 2;show b.data[i]! ::_=_;rw[getElem!_pos b.data i (by simpa using hi),Array.getElem_toList];rfl
theorem Iz(b:ByteArray):b.toList=b.data.toList:=by
 unfold ByteArray.toList;rw[IA b _ 0 [] rfl];rfl
theorem nR(a b:ByteArray):(a.toList==b.toList)=decide (a=b):=by
 rw[Iz,Iz,mJ];simp only[beq_iff_eq,decide_eq_true_eq];exact⟨fun h=>WideShapes.bytes_inj h,fun h=>by rw[h]⟩
theorem qM(b:ByteArray)(i:Nat):b[i]?=b.data.toList[i]? :=by
 show(if h:i<b.size then some b[i]else none)=_;split
 ·rename_i h;rw[bN (by rw[gz];exact h),Array.getElem_toList];rfl
 ·rename_i h;rw[iA (by rw[gz];exact Nat.le_of_not_lt h)]
theorem fD(b:ByteArray):b.data.toList.length=b.size:=gz
theorem enters_of{P:Program}{d:List Nat}{f:FuncId}{F:CF}(hc:aN P d f=some F):Enters P f:=by
 unfold aN at hc;split at hc
 ·rename_i fn a;split at hc
  ·rename_i c hb;split at hc
   ·cases hc
   ·rename_i e;intro args w;have b:fn.name≠ "runtime.NumGoroutine":=by simpa using e
    simp[callFunc,a,b,hb,Go.mark]
  ·cases hc
 ·cases hc
theorem aG.big{P:Program}{f:FuncId}{ds:List D}{r:D}(e:Enters P f)(i:Nat){sz:Nat}{rows:List (List D)}(hi:ds[i]?=some (.sl sz rows))(h:rows.length≤9223372036854775807→aG P f ds r):aG P f ds r:=by
 by_cases hb:rows.length≤9223372036854775807
 ·exact h hb
 ·refine⟨e,fun I w vs p b _=> ?_⟩;exfalso;have g:=(b9.1 hi).1;have j:vs[i]?=some vs[i]:=bN a8;have d:=b i _ _ j hi;generalize vs[i]=v at d;cases d with
  |sl a n c sz us rows k l m o=>omega
theorem aH(a v:AV):b8 [a] 0 1 [v]=some [v]:=rfl
abbrev iN(k:Nat):AV:= .d (.sc (.int .i64 k))
abbrev dB(b:Bool):D:= .sc (.bool b)
abbrev dI(n:Int):D:= .sc (.int .i64 n)
abbrev dS(s:bh):D:= .sc (.string s)
theorem yO{α β:Type}{a:List α}{b:List β}{k:Nat}{x:α×β}(h:(a.zip b)[k]?=some x):a[k]?=some x.1∧b[k]?=some x.2:=by
 rw[List.getElem?_zip_eq_some]at h;exact h
theorem NQ(d:Dg)(k:Nat):(aP d)[k]?=(d.l[k]?).map fun b=> .sc (.int .u8 b):=by unfold aP;rw[dL]
end Go.Proofs.Q
namespace Go.Proofs.Q
open Go Go.Bb Go.Proofs.Lg
open Go.Ab (D)
def gy:List AV:=(bc .zero).map .d
def mH:List AV:=[.d (.sc (.string ⟨#[]⟩)),.d (.sc (.string ⟨#[]⟩)),.d (.sc (.int .i64 0)),.nil 32,.nil 139]
theorem fJ{vs:List AV}(h:vs.length=5):b8 mH 0 5 vs=some vs:=gN rfl h
theorem eo(x:Dg)(l:List AV)(h:l.length=32):b8 l 0 32 ((aP x).map .d)=some ((aP x).map .d):=gN h (by rw[aQ,ba])
end Go.Proofs.Q
namespace Go.Proofs.Q
open Go Go.Bb Go.Proofs.Lg
end Go.Proofs.Q
namespace Go.Proofs.Q
open Go Go.Bb Go.Proofs.Lg
open Go.Ab (D)
theorem JA: ∀(a b:List Int),a.length=b.length→(iG (a.zip b)=0↔a=b)
 |[],[],_=>by simp[iG]
 |x::a,y::b,h=>by
  rw[oM,iG];split
  ·rename_i c;constructor
   ·intro h;simp at h
   ·intro e;simp at e c;omega
  ·split
   ·rename_i c d;constructor
    ·intro h;simp at h
    ·intro e;simp at e d;omega
   ·rename_i c d;have:x=y:=by simp at c d;omega
    subst this;rw[JA a b (by simpa using h)];simp
 |[],_::_,h=>by simp at h
 |_::_,[],h=>by simp at h
theorem JB: ∀(a b:List Int),iG (b.zip a)= -iG (a.zip b)
 |[],[]=>rfl
 |[],_::_=>rfl
 |_::_,[]=>rfl
 |x::a,y::b=>by
  rw[oM,oM,iG,iG];dsimp only;by_cases c:x<y
  ·rw[if_neg a8,if_pos c,if_pos c];rfl
  ·by_cases d:y<x
   ·rw[if_pos d,if_neg c,if_pos d]
   ·rw[if_neg d,if_neg c,if_neg c,if_neg d];exact JB a b
theorem JC: ∀(a b c:List Int),a.length=b.length→b.length=c.length→iG (a.zip b)<0→iG (b.zip c)<0→iG (a.zip c)<0
 |[],[],_,_,_,h,_=>by simp[iG]at h
 |x::a,y::b,z::c,h1,h2,h3,h4=>by
  rw[oM,iG]at h3 h4⊢;dsimp only at h3 h4⊢;split at h3
  ·rename_i d;split at h4
   ·rw[if_pos a8];decide
   ·split at h4
    ·omega
    ·rw[if_pos a8];decide
  ·split at h3
   ·omega
   ·split at h4
    ·rw[if_pos a8];decide
    ·split at h4
     ·omega
     ·rw[if_neg a8,if_neg a8];exact JC a b c (by simpa using h1) (by simpa using h2) h3 h4
 |[],_::_,_,h,_,_,_=>by simp at h
 |_::_,[],_,h,_,_,_=>by simp at h
 |_::_,_::_,[],_,h,_,_=>by simp at h
theorem jz(a b:Dg):bS a b=0↔a=b:=by
 unfold bS;rw[JA _ _ (by rw[a.len,b.len])];exact⟨fun h=>Dg.ext h,fun h=>by rw[h]⟩
theorem uO(a b:Dg):bS b a= -bS a b:=JB _ _
theorem n0{a b c:Dg}(d:bS a b<0)(e:bS b c<0):bS a c<0:=JC _ _ _ (by rw[a.len,b.len]) (by rw[b.len,c.len]) d e
theorem qX(a:Dg): ¬bS a a<0:=by rw[(jz a a).2 rfl];decide
theorem zN{a b:Dg}(h: ¬bS a b<0)(hne:a≠b):bS b a<0:=by
 rw[uO];have:bS a b≠0:=fun e=>hne ((jz a b).1 e);omega
def dQ(l:List Dg):Prop:=l.Pairwise fun a b=>bS a b<0
theorem dQ.nodup{l:List Dg}(h:dQ l):l.Nodup:=h.imp fun h e=>by subst e;exact qX _ h
theorem xD{α:Type}[DecidableEq α]: ∀{l u:List α},l.Nodup→(∀x∈l,x∈u)→l.length≤u.length
 |[],_,_,_=>fy _
 |x::l,u,h,hs=>by
  obtain⟨c,d⟩:=qD.1 h;have a:=hs x (by simp);have:=xD (l:=l) (u:=u.erase x) d fun y b=>(List.mem_erase_of_ne (fun e=>c (by rw[←e];exact b))).2 (hs y (eQ _ b));rw[List.length_erase_of_mem a]at this;have hp:0<u.length:=List.length_pos_of_mem a;rw[aY];omega
theorem Pn(d:Dg): ∀(l:List Dg) (k:Nat),∃j,jT d l k=k+j∧j≤l.length∧(∀x∈l.take j,bS x d<0)∧(∀y,l[j]?=some y→ ¬bS y d<0)
 |[],k=>⟨0,rfl,bk _,by simp,by simp⟩
 |y::l,k=>by
  unfold jT;split
  ·rename_i h;obtain⟨j,f,g,c,e⟩:=Pn d l (k+1);refine⟨j+1,by omega,by simp;omega,?_,fun z b=>e z (by simpa using b)⟩;intro x a;rw[jj]at a;rcases bM.1 a with rfl|a
   ·exact h
   ·exact c x a
  ·rename_i h;exact⟨0,rfl,fy _,by simp,fun z b=>by simp at b;subst b;exact h⟩
theorem Po(l:List Dg)(d:Dg)(o:dQ l):dQ (lL l d)∧ ∀x,x∈lL l d↔x=d∨x∈l:=by
 obtain⟨j,m,w,q,s⟩:=Pn d l 0;rw[aw]at m;unfold lL;rw[m];split
 ·rename_i h;have:=bX h;exact⟨o,fun x=>⟨.inr,fun h=>h.elim (fun e=>by rw[e];exact this) id⟩⟩
 ·rename_i h;have f:=ji j l;have i:dQ (l.take j++l.drop j):=by rw[f];exact o
  obtain⟨u,k,v⟩:=wi.1 i;have t: ∀y∈l.drop j,bS d y<0:=by
   intro y c;cases g:l.drop j with
   |nil=>rw[g]at c;cases c
   |cons z r=>
    have p:l[j]?=some z:=by
     have:(l.drop j)[0]?=some z:=by rw[g];rfl
     rw[fm]at this;simpa using this
    have n:=zN (s z p) (fun e=>h (by rw[←e];exact p));rw[g]at c k;rcases bM.1 c with rfl|c
    ·exact n
    ·exact n0 n ((gY.1 k).1 y c)
  refine⟨?_,fun x=> ?_⟩
  ·refine wi.2 ⟨u,gY.2 ⟨t,k⟩,fun a ha b hb=> ?_⟩;rcases bM.1 hb with rfl|hb
   ·exact q a ha
   ·exact v a ha b hb
  ·have hm:x∈l↔x∈l.take j∨x∈l.drop j:=by
    conv=>lhs;rw[←f]
    exact eJ
   rw[eJ,bM,hm];constructor
   ·rintro(h|h|h)
    ·exact .inr (.inl h)
    ·exact .inl h
    ·exact .inr (.inr h)
   ·rintro(h|h|h)
    ·exact .inr (.inl h)
    ·exact .inl h
    ·exact .inr (.inr h)
theorem yG: ∀(r l:List Dg),dQ l→dQ (mE r l)∧ ∀x,x∈mE r l↔x∈r∨x∈l
 |[],l,h=>⟨h,fun x=>by simp[mE]⟩
 |d::r,l,h=>by
  rw[mE];obtain⟨a,b⟩:=Po l d h;obtain⟨c,e⟩:=yG r (lL l d) a;refine⟨c,fun x=> ?_⟩;rw[e,b,bM];constructor
  ·rintro(h|h|h)
   ·exact .inl (.inr h)
   ·exact .inl (.inl h)
   ·exact .inr h
  ·rintro((h|h)|h)
   ·exact .inr (.inl h)
   ·exact .inl h
   ·exact .inr (.inr h)
theorem HN: ∀(r:List af) (l:List Dg),dQ l→dQ (mF r l)∧ ∀x,x∈mF r l↔(∃y∈r,isZero y.p=false∧y.p=x)∨x∈l
 |[],l,h=>⟨h,fun x=>by simp[mF]⟩
 |y::r,l,h=>by
  rw[mF];by_cases a:isZero y.p=true
  ·rw[if_pos a];obtain⟨b,c⟩:=HN r l h;refine⟨b,fun x=> ?_⟩;rw[c];simp[a]
  ·rw[if_neg a];obtain⟨e,f⟩:=Po l y.p h;obtain⟨b,c⟩:=HN r (lL l y.p) e;refine⟨b,fun x=> ?_⟩;rw[c,f];have d:isZero y.p=false:=by simpa using a
   simp only[bM,exists_eq_or_imp,d,true_and];constructor
   ·rintro(h|h|h)
    ·exact .inl (.inr h)
    ·exact .inl (.inl h.symm)
    ·exact .inr h
   ·rintro((h|h)|h)
    ·exact .inr (.inl h.symm)
    ·exact .inl h
    ·exact .inr (.inr h)
theorem Dy: ∀(r:List aC) (l:List Dg),dQ l→dQ (ni r l)∧ ∀x,x∈ni r l↔(∃c∈r,∃y∈kJ c,isZero y.p=false∧y.p=x)∨x∈l
 |[],l,h=>⟨h,fun x=>by simp[ni]⟩
 |c::r,l,h=>by
  rw[ni];obtain⟨a,b⟩:=HN (kJ c) l h;obtain⟨d,e⟩:=Dy r _ a;refine⟨d,fun x=> ?_⟩;rw[e,b];simp only[bM,exists_eq_or_imp];constructor
  ·rintro(h|h|h)
   ·exact .inl (.inr h)
   ·exact .inl (.inl h)
   ·exact .inr h
  ·rintro((h|h)|h)
   ·exact .inr (.inl h)
   ·exact .inl h
   ·exact .inr (.inr h)
theorem dQ.nil:dQ []:=List.Pairwise.nil
theorem Vd(p:aX):dQ (cD p):=by
 unfold cD;split
 ·exact dQ.nil
 ·exact(Dy _ _ (yG _ _ dQ.nil).1).1
end Go.Proofs.Q
namespace Go.Proofs.Lh
open Go Go.Ab Go.Bb Go.RowKit Go.Proofs.Lg
theorem enters_fn'{P:Program}{f:FuncId}{fn:Func}{c:Code}(a:P.funcs[f]?=some fn)(hb:fn.body=some c)(d:(fn.name== "runtime.NumGoroutine")=false):Enters P f:=fun args w=>by
 have b:fn.name≠ "runtime.NumGoroutine":=by simpa using d
 simp[callFunc,a,b,hb,mark]
section
variable {P:Program}
theorem a2R(w:World)(t k n e:TypeId)(i:TypeInfo)(l:P.underlying t=some (.slice e))(hi:P.info? e=some i)
  (g a b:Nat) (cur:Array Value) (fz:Nat×Nat) (hg:w.heap[g]?=some (.cells cur e fz)) (j:fz.2≤a*i.size∨cur.size≤fz.1)
  (x:Value) (m:Nat) (news:List Value) (h:Src P i.size k x m news w) (c:a+m≤b) (d:a*i.size+news.length≤cur.size):
  (Builtin.append_ #[t,k] n #[.slice (some ⟨g,0,none⟩) a b,x]).run P w=
   .ok (.slice (some ⟨g,0,none⟩) (a+m) b) (w.setRow g (cur.toList.take (a*i.size)++news++cur.toList.drop (a*i.size+news.length)).toArray):=by
 have f:=Hj P g (a*i.size) e fz news 0 cur w hg (by simpa using j) (by simpa using d) h.one;simp only[aE]at f;rcases h.kind with⟨o,hk⟩|hk<;>simp[Builtin.append_,run_underlying l,run_underlying hk,sizeOf,typeInfo,hi,h.len,c,h.cells,Addr.add_lit,f]
def EF(w w':World)(B e sz n m:Nat)(v a:Value)(xs:List Value):Prop:=
 (dO w' B e sz a (n+m) xs)∧Below B w w'∧((∃g,a.ownBlock=some g∧v.ownBlock=some g∧w.grownBy w' (some g))∨(a.ownBlock=some w.heap.size∧w.heap.size<w'.heap.size∧w.grownBy w' none))
theorem Oj(w:World)(base:Nat)(t J K e:TypeId)(i:TypeInfo)(z:Value)(D:P.underlying t=some (.slice e))(hi:P.info? e=some i)(U:i.zero=some z)(Q:z.cells.size=i.size)
  (v:Value) (n:Nat) (xs:List Value) (a:dO w base e i.size v n xs) (x:Value) (m:Nat) (news:List Value) (s:Src P i.size J x m news w)
  (L:n+m≤9223372036854775807) (hbytes:(n+m)*i.bytes≤140737488355328) (l:base≤w.heap.size):
  ∃y w',(Builtin.append_ #[t,J] K #[v,x]).run P w= .ok y w'∧((m=0∧y=v∧w'=w)∨(0<m∧EF w w' base e i.size n m v y (xs++news)))∧
   (0<m→w.ownsRow base e i.size v n xs→w'.ownsRow base e i.size y (n+m) (xs++news)):=by
 obtain⟨a0,o,rfl⟩:=vt a;have p:=MU a;have N:=s.newsLen;by_cases hm:m=0
 ·subst hm;have G:news=[]:=fK (by rw[N];simp);subst G;refine⟨_,w,?_,.inl ⟨rfl,rfl,rfl⟩,fun h=>by omega⟩;have hc:=s.cells;rcases s.kind with⟨V,hk⟩|hk
  ·cases a0 with
   |none=>simp[Builtin.append_,run_underlying D,run_underlying hk,sizeOf,typeInfo,hi,s.len,p,hc]
   |some a0=>simp[Builtin.append_,run_underlying D,run_underlying hk,sizeOf,typeInfo,hi,s.len,p,hc,storeCells]
  ·cases a0 with
   |none=>simp[Builtin.append_,run_underlying D,run_underlying hk,sizeOf,typeInfo,hi,s.len,p,hc]
   |some a0=>simp[Builtin.append_,run_underlying D,run_underlying hk,sizeOf,typeInfo,hi,s.len,p,hc,storeCells]
 ·have b:(xs++news).length=(n+m)*i.size:=by rw[aR,a.1,N,fe]
  have A: ∀(f:Nat),f<n+m→
    (w.drew.alloc (.cells ((xs++news).toArray++Builtin.zeroCells z.cells (grownCap w (n+m) f e-(n+m))) e)).ownsRow base e i.size
     (.slice (some ⟨w.heap.size,0,none⟩) (n+m) (grownCap w (n+m) f e)) (n+m) (xs++news)∧
    w.grownBy (w.drew.alloc (.cells ((xs++news).toArray++Builtin.zeroCells z.cells (grownCap w (n+m) f e-(n+m))) e)) none:=by
   intro f W;have M:=grownCap_ge w (n+m) f e;have q:grownCap w (n+m) f e≤maxLen:=grownCap_le_maxLen w (n+m) f e (by unfold maxLen;exact L);refine⟨⟨b,.inr ⟨w.heap.size,_,_,rfl,l,heap_alloc_new w.drew _,M,q,?_,?_⟩⟩,⟨rfl,rfl,rfl,by simp,fun k hk _=>Below.heap_alloc w.drew _ k (by simpa using hk)⟩⟩
   ·simp only[Array.size_append,kU,size_zeroCells,Q,b,←fe];congr 1;omega
   ·simp only[pO];rw[←b];exact List.take_left
  have key: ∀(c:o<n+m),(Builtin.firstCells i.size n (.slice a0 n o)).run P w.drew= .ok xs.toArray w.drew→(w.ownsRow base e i.size (.slice a0 n o) n xs→True)→ ∃y w',(Builtin.append_ #[t,J] K #[.slice a0 n o,x]).run P w= .ok y w'∧((m=0∧y= .slice a0 n o∧w'=w)∨(0<m∧EF w w' base e i.size n m (.slice a0 n o) y (xs++news)))∧
    (0<m→w.ownsRow base e i.size (.slice a0 n o) n xs→w'.ownsRow base e i.size y (n+m) (xs++news)):=fun c H _=>by
   have O:=run_append_grow_src (P:=P) w t J K e i z D hi U a0 n o xs H x m news s c a8 (growslice_fits c hbytes);have r:=A o c;exact⟨_,_,O,.inr ⟨by omega,dO.of r.1,(Below.refl _ _).grown r.2 l (by simp),.inr ⟨rfl,by simp,r.2⟩⟩,fun _ _=>r.1⟩
  rcases a.2 with⟨C,rfl⟩|⟨g,cap,cur,fz,C,hbg,hg,hnc,q,hcs,htake,hfz⟩
  ·cases C;have T:xs=[]:=fK (by simpa using a.1);subst T;exact key a8 (run_firstCells_none w.drew i.size 0 0 0) fun _=>trivial
  ·cases C;by_cases d:n+m≤o
   ·have E:n*i.size+news.length≤cur.size:=by rw[N,hcs,←fe];exact iP _ d
    have O:=a2R (P:=P) w t J K e i D hi g n o cur fz hg hfz x m news s d E;have F:w.grownBy (w.setRow g (cur.toList.take (n*i.size)++news++cur.toList.drop (n*i.size+news.length)).toArray) (some g):=⟨rfl,rfl,rfl,by simp,fun k _ hk=>setRow_other w g k _ (fun e=>hk (by simp[e]))⟩
    have B:(cur.toList.take (n*i.size)++news++cur.toList.drop (n*i.size+news.length)).toArray.size=cur.size:=by
     simp only[kU,aR,ck,aA,gz];omega
    have I:(cur.toList.take (n*i.size)++news++cur.toList.drop (n*i.size+news.length)).toArray.toList.take ((n+m)*i.size)=xs++news:=by
     rw[htake,←b];exact List.take_left
    refine⟨_,_,O,.inr ⟨by omega,⟨b,.inr ⟨g,o,_,fz,rfl,hbg,setRow_heap w g cur _ e _ hg,d,q,B.trans hcs,I,?_⟩⟩,(Below.refl _ _).grown F l (by simp;exact hbg),.inl ⟨g,rfl,rfl,F⟩⟩,fun _ R=>⟨b,.inr ⟨g,o,_,rfl,hbg,setRow_heap w g cur _ e _ ?_,d,q,B.trans hcs,I⟩⟩⟩
    ·rw[B];rcases hfz with hfz|hfz
     ·exact .inl (ef hfz (iP _ (Nat.le_add_right n m)))
     ·exact .inr hfz
    ·rcases R.2 with⟨C,_⟩|⟨g',cap',cur',C,_,hg',_⟩
     ·cases C
     ·cases C;rw[hg]at hg';have:=aJ hg';injection this with e1 _ e3
      rw[hg,e3]
   ·exact key a8 (run_firstCells_some w.drew i.size n ⟨g,0,none⟩ n o xs a.1 (fun j u S=>by rw[World.cell?_drew];exact a.cells (g:=g) rfl j u S)) fun _=>trivial
end
end Go.Proofs.Lh
namespace Go.Proofs.Q
open Go Go.Bb Go.RowKit Go.Proofs.Lg
open Go.Ab (D RD)
def DV(r:aD×Dg×Int):D:= .tup [.sl 37 (r.1.map b5),.agg (aP r.2.1),dI r.2.2]
end Go.Proofs.Q
