/- Part of a proof. -/
import Derived.Test.YtfoljakejdgfcaaGreatDoorPAJ
import Derived.WideShapes
set_option linter.unusedVariables false
set_option linter.unusedSimpArgs false
namespace Go.Proofs.Q
open Go Go.Bb Go.RowKit Go.Proofs.Lg
open Go.Ab (D RD)
theorem G8(b:ByteArray): ∀(n i:Nat) (r:List UInt8),b.size-i=n→ByteArray.toList.loop b i r=r.reverse++b.data.toList.drop i
 |0,i,r,h=>by
  unfold ByteArray.toList.loop;have a:b.data.toList.length=b.size:=jM;rw[if_neg a8,gy a8,bg]
 |n+1,i,r,h=>by
  unfold ByteArray.toList.loop;have a:b.data.toList.length=b.size:=jM;have hi:i<b.data.toList.length:=by omega
  rw[if_pos a8,G8 b n (i+1) _ a8,js hi,List.reverse_cons,bj];congr 2;show b.data[i]! ::_=_;rw[getElem!_pos b.data i (by simpa using hi),Array.getElem_toList];rfl
theorem G7(b:ByteArray):b.toList=b.data.toList:=by
 unfold ByteArray.toList;rw[G8 b _ 0 [] rfl];rfl
theorem jY(a b:ByteArray):(a.toList==b.toList)=decide (a=b):=by
 rw[G7,G7,nQ];simp only[beq_iff_eq,decide_eq_true_eq];exact⟨fun h=>WideShapes.bytes_inj h,fun h=>by rw[h]⟩
theorem pI(b:ByteArray)(i:Nat):b[i]?=b.data.toList[i]? :=by
 show(if h:i<b.size then some b[i]else none)=_;split
 ·rename_i h;rw[bV (by rw[jM];exact h),Array.getElem_toList];rfl
 ·rename_i h;rw[fZ (by rw[jM];exact Nat.le_of_not_lt h)]
theorem fi(b:ByteArray):b.data.toList.length=b.size:=jM
theorem enters_of{P:Program}{d:List Nat}{f:FuncId}{F:CF}(hc:aG P d f=some F):Enters P f:=by
 unfold aG at hc;split at hc
 ·rename_i fn a;split at hc
  ·rename_i c hb;split at hc
   ·cases hc
   ·rename_i e;intro args w;have b:fn.name≠ "runtime.NumGoroutine":=by simpa using e
    simp[callFunc,a,b,hb,Go.mark]
  ·cases hc
 ·cases hc
theorem aE.big{P:Program}{f:FuncId}{ds:List D}{r:D}(e:Enters P f)(i:Nat){sz:Nat}{rows:List (List D)}(hi:ds[i]?=some (.sl sz rows))(h:rows.length≤9223372036854775807→aE P f ds r):aE P f ds r:=by
 by_cases hb:rows.length≤9223372036854775807
 ·exact h hb
 ·refine⟨e,fun I w vs p b _=> ?_⟩;exfalso;have g:=(aR.1 hi).1;have j:vs[i]?=some vs[i]:=bV a8;have d:=b i _ _ j hi;generalize vs[i]=v at d;cases d with
  |sl a n c sz us rows k l m o=>omega
theorem aC(a v:AV):aV [a] 0 1 [v]=some [v]:=rfl
abbrev iN(k:Nat):AV:= .d (.sc (.int .i64 k))
abbrev dB(b:Bool):D:= .sc (.bool b)
abbrev dI(n:Int):D:= .sc (.int .i64 n)
abbrev dS(s:aZ):D:= .sc (.string s)
theorem qK{α β:Type}{a:List α}{b:List β}{k:Nat}{x:α×β}(h:(a.zip b)[k]?=some x):a[k]?=some x.1∧b[k]?=some x.2:=by
 rw[List.getElem?_zip_eq_some]at h;exact h
theorem Kk(d:Dg)(k:Nat):(aq d)[k]?=(d.l[k]?).map fun b=> .sc (.int .u8 b):=by unfold aq;rw[cC]
end Go.Proofs.Q
namespace Go.Bb
open Go Go.Ab
theorem AC.cut{P:Program}{N:Nat}{rd:Option Nat}{a b:CC}{Q:Exit→Fr→List aa→Prop}{fr:Fr}{s:List aa}(keep:List Nat)(fr0:Fr)(d:List aa)(p:Prop)
  (ha:bR P rd a (fp (fun fr' c=>iP keep fr0 fr'∧(∃J,c=d++J)∧p) Q) fr s) (hb: ∀J,p→AC P N rd b Q (dV keep fr0) (d++J)):AC P N rd (.seq a b) Q fr s:=by
 refine AC.seq ((bL ha).mono fun e fr' c h=> ?_);cases e with
 |normal=>
  obtain⟨f,⟨J,rfl⟩,g⟩:=h;exact(hb J g).frame f.sub
 |_=>exact h
theorem ph{P:Program}{b:List Nat}{f:FuncId}{F:CF}(hc:aG P b f=some F.erase){args:List D}{r:D}(a:args.length≤F.n)(h:AC P F.n none F.body (pG F.res fun x s=>bu s 5 x=some r) (lu 0 (args.map .d)) []):aE P f args r:=
 let⟨_,_,c,e⟩:=aT.ofA hc (by simpa using a) h;aE.of_runs c e
theorem aX.overI{P:Program}{rd:Option Nat}{keep:List Nat}{c:CC}{Q:Exit→Fr→List aa→Prop}{fr fr0:Fr}{s:List aa}{α β γ:Type}(l:List α)(F:Nat→β→Fr)(S:Nat→β→List aa)(g:List α→β→γ)(R:γ)(J:Nat→β→Prop)(b:β)(x:l.length≤9223372036854775807)
  (w:dV keep fr=fr0) (h0:iP keep (F 0 b++fr0) fr0) (v:s=S 0 b) (u:R=g l b) (t:J 0 b)
  (h: ∀k b y,l[k]?=some y→k<l.length→decide ((k:Int)<(l.length:Int))=true→IntKind.i64.wrap ((k:Int)+1)=((k+1:Nat):Int)→R=g (y::l.drop (k+1)) b→J k b→
   bR P rd c (fp (fun fr' n=> ∃d,iP keep (F (k+1) d++fr0) fr'∧n=S (k+1) d∧R=g (l.drop (k+1)) d∧J (k+1) d) Q) (dV keep (F k b++fr0)) (S k b))
  (a: ∀b,decide ((l.length:Int)<(l.length:Int))=false→R=g [] b→J l.length b→bR P rd c (fp (fun _ _=>False) Q) (dV keep (F l.length b++fr0)) (S l.length b)):aX P rd (.trim keep c) Q fr s:=by
 refine aX.tr (fun b:Nat×β=>F b.1 b.2) (fun b=>S b.1 b.2) (fun m b=>m+b.1=l.length∧R=g (l.drop b.1) b.2∧J b.1 b.2) l.length (0,b) w h0 v ⟨rfl,u,t⟩ ?_;rintro m ⟨k,b⟩ ⟨hm,hi,j⟩;dsimp only at hm hi j⊢;by_cases i:k<l.length
 ·have hg:l[k]?=some l[k]:=bV i;rw[js i]at hi;refine kG (h k b _ hg i (by simpa using i) (ck a8 a8) hi j) fun e fr' n f=> ?_;cases e with
  |normal=>obtain⟨d,o,p,q,r⟩:=f;exact⟨m-1,(k+1,d),by omega,o,p,by dsimp only;omega,q,r⟩
  |_=>exact f
 ·obtain rfl:k=l.length:=by omega
  rw[sO]at hi;refine kG (a b (by simp) hi j) fun e fr' n f=> ?_;cases e with
  |normal=>exact f.elim
  |_=>exact f
end Go.Bb
namespace Go.Proofs.Q
open Go Go.Bb Go.RowKit Go.Proofs.Lg
open Go.Ab (D RD)
theorem room_le{n b:Nat}(h:n*b≤140737488355328)(a:n≤9223372036854775807):br n b=true:=by simp[br,h,a]
end Go.Proofs.Q
namespace Go.Proofs.Q
open Go Go.Bb Go.Proofs.Lg
open Go.Ab (D)
theorem H4: ∀(a b:List Int),a.length=b.length→(im (a.zip b)=0↔a=b)
 |[],[],_=>by simp[im]
 |x::a,y::b,h=>by
  rw[mc,im];split
  ·rename_i c;constructor
   ·intro h;simp at h
   ·intro e;simp at e c;omega
  ·split
   ·rename_i c d;constructor
    ·intro h;simp at h
    ·intro e;simp at e d;omega
   ·rename_i c d;have:x=y:=by simp at c d;omega
    subst this;rw[H4 a b (by simpa using h)];simp
 |[],_::_,h=>by simp at h
 |_::_,[],h=>by simp at h
theorem H5: ∀(a b:List Int),im (b.zip a)= -im (a.zip b)
 |[],[]=>rfl
 |[],_::_=>rfl
 |_::_,[]=>rfl
 |x::a,y::b=>by
  rw[mc,mc,im,im];dsimp only;by_cases c:x<y
  ·rw[if_neg a8,if_pos c,if_pos c];rfl
  ·by_cases d:y<x
   ·rw[if_pos d,if_neg c,if_pos d]
   ·rw[if_neg d,if_neg c,if_neg c,if_neg d];exact H5 a b
theorem H6: ∀(a b c:List Int),a.length=b.length→b.length=c.length→im (a.zip b)<0→im (b.zip c)<0→im (a.zip c)<0
 |[],[],_,_,_,h,_=>by simp[im]at h
 |x::a,y::b,z::c,h1,h2,h3,h4=>by
  rw[mc,im]at h3 h4⊢;dsimp only at h3 h4⊢;split at h3
  ·rename_i d;split at h4
   ·rw[if_pos a8];decide
   ·split at h4
    ·omega
    ·rw[if_pos a8];decide
  ·split at h3
   ·omega
   ·split at h4
    ·rw[if_pos a8];decide
    ·split at h4
     ·omega
     ·rw[if_neg a8,if_neg a8];exact H6 a b c (by simpa using h1) (by simpa using h2) h3 h4
 |[],_::_,_,h,_,_,_=>by simp at h
 |_::_,[],_,h,_,_,_=>by simp at h
 |_::_,_::_,[],_,h,_,_=>by simp at h
theorem lz(a b:Dg):cQ a b=0↔a=b:=by
 unfold cQ;rw[H4 _ _ (by rw[a.len,b.len])];exact⟨fun h=>Dg.ext h,fun h=>by rw[h]⟩
theorem va(a b:Dg):cQ b a= -cQ a b:=H5 _ _
theorem oA{a b c:Dg}(d:cQ a b<0)(e:cQ b c<0):cQ a c<0:=H6 _ _ _ (by rw[a.len,b.len]) (by rw[b.len,c.len]) d e
theorem tF(a:Dg): ¬cQ a a<0:=by rw[(lz a a).2 rfl];decide
theorem D9{a b:Dg}(h: ¬cQ a b<0)(hne:a≠b):cQ b a<0:=by
 rw[va];have:cQ a b≠0:=fun e=>hne ((lz a b).1 e);omega
def dA(l:List Dg):Prop:=l.Pairwise fun a b=>cQ a b<0
theorem dA.nodup{l:List Dg}(h:dA l):l.Nodup:=h.imp fun h e=>by subst e;exact tF _ h
theorem tS{α:Type}[DecidableEq α]: ∀{l u:List α},l.Nodup→(∀x∈l,x∈u)→l.length≤u.length
 |[],_,_,_=>fM _
 |x::l,u,h,hs=>by
  obtain⟨c,d⟩:=mb.1 h;have a:=hs x (by simp);have:=tS (l:=l) (u:=u.erase x) d fun y b=>(List.mem_erase_of_ne (fun e=>c (by rw[←e];exact b))).2 (hs y (jS _ b));rw[List.length_erase_of_mem a]at this;have f:0<u.length:=List.length_pos_of_mem a;rw[aU];omega
theorem LU(d:Dg): ∀(l:List Dg) (k:Nat),∃j,jl d l k=k+j∧j≤l.length∧(∀x∈l.take j,cQ x d<0)∧(∀y,l[j]?=some y→ ¬cQ y d<0)
 |[],k=>⟨0,rfl,bh _,by simp,by simp⟩
 |y::l,k=>by
  unfold jl;split
  ·rename_i h;obtain⟨j,f,g,c,e⟩:=LU d l (k+1);refine⟨j+1,by omega,by simp;omega,?_,fun z b=>e z (by simpa using b)⟩;intro x a;rw[jT]at a;rcases bY.1 a with rfl|a
   ·exact h
   ·exact c x a
  ·rename_i h;exact⟨0,rfl,fM _,by simp,fun z b=>by simp at b;subst b;exact h⟩
theorem wL(l:List Dg)(d:Dg)(o:dA l):dA (jK l d)∧ ∀x,x∈jK l d↔x=d∨x∈l:=by
 obtain⟨j,m,w,q,s⟩:=LU d l 0;rw[au]at m;unfold jK;rw[m];split
 ·rename_i h;have:=bT h;exact⟨o,fun x=>⟨.inr,fun h=>h.elim (fun e=>by rw[e];exact this) id⟩⟩
 ·rename_i h;have f:=ll j l;have i:dA (l.take j++l.drop j):=by rw[f];exact o
  obtain⟨u,k,v⟩:=List.pairwise_append.1 i;have t: ∀y∈l.drop j,cQ d y<0:=by
   intro y c;cases g:l.drop j with
   |nil=>rw[g]at c;cases c
   |cons z r=>
    have p:l[j]?=some z:=by
     have:(l.drop j)[0]?=some z:=by rw[g];rfl
     rw[fB]at this;simpa using this
    have n:=D9 (s z p) (fun e=>h (by rw[←e];exact p));rw[g]at c k;rcases bY.1 c with rfl|c
    ·exact n
    ·exact oA n ((mQ.1 k).1 y c)
  refine⟨?_,fun x=> ?_⟩
  ·refine List.pairwise_append.2 ⟨u,mQ.2 ⟨t,k⟩,fun a ha b hb=> ?_⟩;rcases bY.1 hb with rfl|hb
   ·exact q a ha
   ·exact v a ha b hb
  ·have hm:x∈l↔x∈l.take j∨x∈l.drop j:=by
    conv=>lhs;rw[←f]
    exact fL
   rw[fL,bY,hm];constructor
   ·rintro(h|h|h)
    ·exact .inr (.inl h)
    ·exact .inl h
    ·exact .inr (.inr h)
   ·rintro(h|h|h)
    ·exact .inr (.inl h)
    ·exact .inl h
    ·exact .inr (.inr h)
theorem uy: ∀(r l:List Dg),dA l→dA (fu r l)∧ ∀x,x∈fu r l↔x∈r∨x∈l
 |[],l,h=>⟨h,fun x=>by simp[fu]⟩
 |d::r,l,h=>by
  rw[fu];obtain⟨a,b⟩:=wL l d h;obtain⟨c,e⟩:=uy r (jK l d) a;refine⟨c,fun x=> ?_⟩;rw[e,b,bY];constructor
  ·rintro(h|h|h)
   ·exact .inl (.inr h)
   ·exact .inl (.inl h)
   ·exact .inr h
  ·rintro((h|h)|h)
   ·exact .inr (.inl h)
   ·exact .inl h
   ·exact .inr (.inr h)
theorem FB: ∀(r:List ar) (l:List Dg),dA l→dA (l8 r l)∧ ∀x,x∈l8 r l↔(∃y∈r,isZero y.p=false∧y.p=x)∨x∈l
 |[],l,h=>⟨h,fun x=>by simp[l8]⟩
 |y::r,l,h=>by
  rw[l8];by_cases a:isZero y.p=true
  ·rw[if_pos a];obtain⟨b,c⟩:=FB r l h;refine⟨b,fun x=> ?_⟩;rw[c];simp[a]
  ·rw[if_neg a];obtain⟨e,f⟩:=wL l y.p h;obtain⟨b,c⟩:=FB r (jK l y.p) e;refine⟨b,fun x=> ?_⟩;rw[c,f];have d:isZero y.p=false:=by simpa using a
   simp only[bY,exists_eq_or_imp,d,true_and];constructor
   ·rintro(h|h|h)
    ·exact .inl (.inr h)
    ·exact .inl (.inl h.symm)
    ·exact .inr h
   ·rintro((h|h)|h)
    ·exact .inr (.inl h.symm)
    ·exact .inl h
    ·exact .inr (.inr h)
theorem DQ: ∀(r:List af) (l:List Dg),dA l→dA (lG r l)∧ ∀x,x∈lG r l↔(∃c∈r,∃y∈lN c,isZero y.p=false∧y.p=x)∨x∈l
 |[],l,h=>⟨h,fun x=>by simp[lG]⟩
 |c::r,l,h=>by
  rw[lG];obtain⟨a,b⟩:=FB (lN c) l h;obtain⟨d,e⟩:=DQ r _ a;refine⟨d,fun x=> ?_⟩;rw[e,b];simp only[bY,exists_eq_or_imp];constructor
  ·rintro(h|h|h)
   ·exact .inl (.inr h)
   ·exact .inl (.inl h)
   ·exact .inr h
  ·rintro((h|h)|h)
   ·exact .inr (.inl h)
   ·exact .inl h
   ·exact .inr (.inr h)
theorem dA.nil:dA []:=List.Pairwise.nil
theorem Qo(p:b9):dA (bB p):=by
 unfold bB;split
 ·exact dA.nil
 ·exact(DQ _ _ (uy _ _ dA.nil).1).1
end Go.Proofs.Q
