/- Part of a proof. -/
import Derived.Test.YtfoljakejdgfcaaGreatDoorPAO
import Derived.Test.YtfoljakejdgfcaaGreatDoorPAW
set_option linter.unusedVariables false
set_option linter.unusedSimpArgs false
namespace Go.Proofs.Q
open Go Go.Bb Go.Proofs.Lg
open Go.Ab (D)
def mK(c:af):Bool:=
 (decide (c.kind=1)||decide (c.type=0))&&((decide (2≤c.kind∧c.kind≤6)||decide (c.file= .zero))&&((decide (c.kind=2)||(decide (c.parent= .zero)&&decide (c.name=⟨#[]⟩)))&&((decide (c.kind=3)||decide (c.mode=0))&&((decide (c.kind=4)||decide (c.data=⟨#[]⟩))&&((decide (c.kind=5∨c.kind=6)||(decide (c.after= .zero)&&decide (c.before= .zero)))&&((decide (c.kind=5)||decide ((c.lines.length:Int)=0))&&(decide (c.kind≠1∧c.kind≠5)||decide ((c.over.length:Int)=0))))))))
theorem C7(c:af)(a:1≤c.kind)(b:c.kind≤7):mK c=nc (ku c):=by
 obtain h|h|h|h|h|h|h:c.kind=1∨c.kind=2∨c.kind=3∨c.kind=4∨c.kind=5∨c.kind=6∨c.kind=7:=by omega
 all_goals
  rw[nQ];simp only[mK,nc,ku,h,eI,jN,decide_eq_true_eq,Int.reduceEq,Int.reduceLE,Int.reduceNe,true_and,and_true,true_or,or_true,false_or,or_false,and_self,if_true,if_false,ne_eq,not_true_eq_false,not_false_eq_true,aY,Int.natCast_zero,Int.reduceNeg,and_false,false_and]
  try(constructor<;>(intro d;simp_all))
def ya(c:af):Int:=
 if c.kind<1∨7<c.kind then 8
 else if mK c=false then 1
 else if c.kind=1∧(c.type<1∨4<c.type)then 8
 else if c.kind=2∧isName c.name=false then 5
 else if c.mode<0∨511<c.mode then 2
 else if 65536<(c.data.size:Int)then 4
 else if c.kind=5∧(c.lines.length:Int)=0 then 1
 else if 2000<(c.lines.length:Int)then 4
 else if km c.lines≠0 then km c.lines
 else if c.kind=7∧(c.over.length:Int)=0 then 1
 else if 400<(c.over.length:Int)then 4
 else if iR c.over=false then 9
 else 0
theorem OU(c:af):ya c=gm c:=by
 unfold ya gm;by_cases h0:c.kind<1∨7<c.kind
 ·rw[if_pos h0,if_pos h0]
 rw[if_neg h0,if_neg h0,C7 c a8 a8];by_cases a:nc (ku c)=false
 ·rw[if_pos a,if_pos a]
 rw[if_neg a,if_neg a];have e:nc (ku c)=true:=by simpa using a
 rw[←C7 c a8 a8]at e;simp only[mK,eI,jN,decide_eq_true_eq]at e;obtain⟨-,-,-,n,l,-,m,k⟩:=e;have i:(c.kind=3∧(c.mode<0∨511<c.mode))↔(c.mode<0∨511<c.mode):=by omega
 simp only[i];by_cases d:c.kind=5
 ·have b:c.over=[]:=fx a8;have ha:iR c.over=true:=by rw[b];rfl
  have f: ¬(c.kind=7∧(c.over.length:Int)=0):=by omega
  have g: ¬(400<(c.over.length:Int)):=by rw[b];simp
  rw[if_neg f,if_neg g,ha,if_neg (c:=true=false) (by simp),if_pos d];unfold mB;simp only[d,true_and]
  repeat' split
  all_goals(first|rfl|omega|simp_all)
 ·have h:c.lines=[]:=fx a8;have f: ¬(c.kind=5∧(c.lines.length:Int)=0):=by omega
  have g: ¬(2000<(c.lines.length:Int)):=by rw[h];simp
  have j:km c.lines=0:=by rw[h];rfl
  rw[if_neg f,if_neg g,j,if_neg (c:=(0:Int)≠0) (by simp),if_neg d]
def vK(k:Int):Int:=if k=2 then 2 else if k=3 then 3 else if k=4 then 4 else if k=6 then 6 else 0
def eP(c:af):List (ar×Nat):=
 (if c.kind=2∨c.kind=3 then[(c.file,2)]else if c.kind=4 then[(c.file,3)]else if c.kind=5∨c.kind=6 then[(c.file,4)]else[])++
 (if c.kind=2∧c.parent≠⟨.zero,-1⟩then[(c.parent,5)]else[])++
 (if c.kind=5∨c.kind=6 then[(c.after,6),(c.before,6)]else[])++c.over.map fun x=>(x,7)
def lD(c:af)(t:Nat)(a:aJ):Bool:=
 if t=2 then decide (a.kind=1)
 else if t=3 then decide (a.kind=1)&&(decide (a.type=2)||decide (a.type=3))
 else if t=4 then decide (a.kind=1)&&decide (a.type=1)
 else if t=5 then decide (a.kind=1)&&decide (a.type=4)
 else if t=6 then decide (a.id=c.file)||(decide (a.kind=5)&&decide (a.file=c.file))
 else decide (c.kind=7)||(decide (a.kind=vK c.kind)&&decide (a.file=c.file))
def gP(c:af)(own:List aJ)(x:ar)(t:Nat):Int:=
 if x.n<0 then 7 else if isZero x.p=true∧(own.length:Int)≤x.n then 7 else if 100000≤x.n then 7
 else if isZero x.p=true∧lD c t ((own[x.n.toNat]?).getD .zero)=false then 8 else 0
def fG(c:af)(own:List aJ):List (ar×Nat)→Int
 |[]=>0
 |r::l=>if gP c own r.1 r.2≠0 then gP c own r.1 r.2 else fG c own l
def tN(c:af):Int:=if c.kind=2∧c.parent=c.file then 20 else if(c.kind=6∧c.after=c.before)∨(c.kind=5∧c.after=c.before∧c.after≠c.file)then 1 else 0
def qB(c:af)(own:List aJ):Int:=cF (fG c own (eP c)) (tN c)
def pC(own:List aJ):Prop:= ∀(i:Nat) (a:aJ),own[i]?=some a→a.id=dL i
theorem BM(c:af)(own:List aJ): ∀(a b:List (ar×Nat)),fG c own (a++b)=cF (fG c own a) (fG c own b)
 |[],b=>by simp[fG,cF]
 |r::a,b=>by
  rw[ma,fG,fG,BM c own a b];split
  ·simp[cF, *]
  ·rfl
theorem TU(a:Int):cF 0 a=a:=by simp[cF]
theorem E5(a b c:Int):cF (cF a b) c=cF a (cF b c):=by
 by_cases h:a=0
 ·subst h;simp[cF]
 ·simp[cF,h]
theorem BO{c:af}{own:List aJ}(g:own.length≤100000)(x:ar)(t:Nat)(f:Bool)(e:isZero x.p=true→0≤x.n→x.n<own.length→f=lD c t ((own[x.n.toNat]?).getD .zero)):gP c own x t=mE x own f:=by
 unfold gP mE allowed;by_cases b:isZero x.p=true
 ·simp only[b,if_true,true_and,Bool.true_and];by_cases h0:x.n<0
  ·rw[if_pos h0,if_pos (by simp;omega)]
  rw[if_neg h0];by_cases a:(own.length:Int)≤x.n
  ·rw[if_pos a,if_pos (by simp;omega)]
  rw[if_neg a,if_neg a8,if_neg (c:=(decide (0≤x.n)&&decide (x.n< ↑own.length))=false) (by simp;omega),←e b a8 a8];cases f<;>simp
 ·have d:isZero x.p=false:=by simpa using b
  simp only[d,jo,if_false,false_and,Bool.false_and];by_cases h0:x.n<0
  ·rw[if_pos h0,if_pos (by simp;omega)]
  rw[if_neg h0];by_cases a:100000≤x.n
  ·rw[if_pos a,if_pos (by simp;omega)]
  ·rw[if_neg a,if_neg (by simp;omega)]
theorem yg{own:List aJ}{x:ar}(b:isZero x.p=true)(h0:0≤x.n)(a:x.n<own.length):jB own x=(own[x.n.toNat]?).getD .zero:=if_pos ⟨b,h0,a⟩
theorem Jz{c:af}{own:List aJ}(d:own.length≤100000)(b:c.kind=2∨c.kind=3∨c.kind=4∨c.kind=6∨c.kind=7): ∀l:List ar,fG c own (l.map fun x=>(x,7))=nA c own l
 |[]=>rfl
 |x::l=>by
  have a:gP c own x 7=mE x own (ri c.kind c.file (jB own x)):=BO d x 7 _ fun e h0 a=>by
   rw[yg e h0 a];unfold ri lD wJ vK;obtain h|h|h|h|h:=b<;>simp[h]
  rw[bO,fG,nA,Jz d b l];simp only[a]
theorem ZZ{x:ar}(a:isZero x.p=true)(h0:0≤x.n):x=dL x.n.toNat:=by
 obtain⟨p,n⟩:=x;simp only[isZero,decide_eq_true_eq]at a;subst a;simp only[dL]at*;congr 1;omega
theorem XA{c:af}{own:List aJ}(g:own.length≤100000)(v:pC own)(d:1≤c.kind)(y:c.kind≤7)(l:c.kind=1∨c.kind=5→c.over=[]):qB c own=jJ c own:=by
 have p:fG c own (if c.kind=2∨c.kind=3 then[(c.file,2)]else if c.kind=4 then[(c.file,3)]else if c.kind=5∨c.kind=6 then[(c.file,4)]else[])=ug c own:=by
  unfold ug;have b: ∀t,(∀a,lE c.kind a=lD c t a)→fG c own [(c.file,t)]=mE c.file own (lE c.kind (jB own c.file)):=fun t w=>by
   have:=BO (c:=c) g c.file t (lE c.kind (jB own c.file)) fun e h0 d=>by rw[yg e h0 d,w]
   simp only[fG,this];split<;>simp_all
  by_cases k:c.kind=2∨c.kind=3
  ·rw[if_pos k,if_pos a8];refine b 2 fun a=> ?_;simp only[lE,lD,mJ];obtain h|h:=k<;>simp[h]
  rw[if_neg k];by_cases m:c.kind=4
  ·rw[if_pos m,if_pos a8];refine b 3 fun a=> ?_;simp only[lE,lD,mJ];simp[m]
  rw[if_neg m];by_cases f:c.kind=5∨c.kind=6
  ·rw[if_pos f,if_pos a8];refine b 4 fun a=> ?_;simp only[lE,lD,mJ];obtain h|h:=f<;>simp[h]
  rw[if_neg f,if_neg a8];rfl
 have q:fG c own (if c.kind=2∧c.parent≠⟨.zero,-1⟩then[(c.parent,5)]else[])=uh c own:=by
  unfold uh;split
  ·rename_i k;have:=BO (c:=c) g c.parent 5 (decide ((jB own c.parent).kind=1)&&decide ((jB own c.parent).type=4)) fun e h0 d=>by rw[yg e h0 d];rfl
   simp only[fG,this];split<;>simp_all
  ·rfl
 have r:fG c own (if c.kind=5∨c.kind=6 then[(c.after,6),(c.before,6)]else[])=sr c own:=by
  unfold sr;have b: ∀x:ar,gP c own x 6=xQ c own x:=fun x=>BO g x 6 _ fun e h0 d=>by
   rw[yg e h0 d];have j:x.n.toNat<own.length:=by omega
   have hg:=bV j;have i:=v _ _ hg;rw[hg,ic];unfold lD vm;simp only[i,←ZZ e h0];rfl
  by_cases k:c.kind=5∨c.kind=6
  ·rw[if_pos k,if_pos (by simp[mJ];exact k)];simp only[fG,pW,b]
  ·rw[if_neg k,if_neg (by simp[mJ];omega)];rfl
 have s:fG c own (c.over.map fun x=>(x,7))=nA c own c.over:=by
  by_cases k:c.kind=1∨c.kind=5
  ·rw[l k];rfl
  ·exact Jz g a8 _
 have u:tN c=vB c:=by
  unfold tN vB mJ;by_cases k:c.kind=2∧c.parent=c.file
  ·rw[if_pos k,if_pos k]
  rw[if_neg k,if_neg k];by_cases f:c.kind=5
  ·simp[f]
  ·by_cases o:c.kind=6
   ·simp[o]
   ·simp[f,o]
 unfold qB jJ eP;rw[BM,BM,BM,p,q,r,s,u,E5,E5,E5]
def BN(c:af):List ar:=(eP c).map (·.1)
theorem Xx{c:af}(h:gm c=0)(d:Dg):(∃y∈BN c,isZero y.p=false∧y.p=d)↔ ∃y∈lN c,isZero y.p=false∧y.p=d:=by
 obtain⟨⟨f,z⟩,n,_⟩:=oD h;rw[←C7 c f z]at n;simp only[mK,eI,jN,decide_eq_true_eq]at n;obtain⟨-,B,s,-,-,A,-,C⟩:=n;have o:isZero ar.zero.p=true:=by simp[isZero,ar.zero]
 have q:isZero (⟨.zero,-1⟩:ar).p=true:=by simp[isZero]
 have b: ∀y:ar,isZero y.p=false→(y∈BN c↔y∈lN c):=fun y j=>by
  simp only[BN,eP,lN,eX,lk,fL,bY];have a:y≠ar.zero:=fun e=>by rw[e,o]at j;cases j
  have i:y≠⟨.zero,-1⟩:=fun e=>by rw[e,q]at j;cases j
  have w:(y∈List.map ((fun x:ar×Nat=>x.1)∘fun x=>(x,7)) c.over)↔y∈c.over:=by
   have:((fun x:ar×Nat=>x.1)∘fun x=>(x,7))=(id:ar→ar):=rfl;rw[this,List.map_id]
  rw[w];have t:(y∈(if c.kind=2∨c.kind=3 then[(c.file,2)]else if c.kind=4 then[(c.file,3)]else if c.kind=5∨c.kind=6 then[(c.file,4)]else[]).map (fun x:ar×Nat=>x.1))↔y=c.file:=by
   by_cases k:2≤c.kind∧c.kind≤6
   ·repeat' split
    all_goals(first|simp;done|omega)
   ·rw[if_neg a8,if_neg a8,if_neg a8];have:c.file= .zero:=by simpa[k]using B
    rw[this];simp[a]
  have u:(y∈(if c.kind=2∧c.parent≠⟨.zero,-1⟩then[(c.parent,5)]else[]).map (fun x:ar×Nat=>x.1))↔y=c.parent:=by
   by_cases k:c.kind=2
   ·by_cases r:c.parent=⟨.zero,-1⟩
    ·rw[if_neg (fun m=>m.2 r),r];simp[i]
    ·rw[if_pos ⟨k,r⟩];simp
   ·rw[if_neg (fun m=>k m.1)];have:c.parent= .zero:=by simp[k]at s;exact s.1
    rw[this];simp[a]
  have v:(y∈(if c.kind=5∨c.kind=6 then[(c.after,6),(c.before,6)]else[]).map (fun x:ar×Nat=>x.1))↔y=c.after∨y=c.before:=by
   by_cases k:c.kind=5∨c.kind=6
   ·rw[if_pos k];simp
   ·rw[if_neg k];have:c.after= .zero∧c.before= .zero:=by simpa[k]using A
    rw[this.1,this.2];simp[a]
  rw[t,u,v];constructor
  ·rintro(((h|h)|(h|h))|h)<;>simp[h]
  ·rintro(h|h|h|h|h)<;>simp[h]
 constructor
 ·rintro⟨y,f,g,l⟩;exact⟨y,(b y g).1 f,g,l⟩
 ·rintro⟨y,f,g,l⟩;exact⟨y,(b y g).2 f,g,l⟩
end Go.Proofs.Q
namespace Go.Proofs.Q
open Go Go.Bb Go.RowKit Go.Proofs.Lg
open Go.Ab (D RD)
theorem Uq(a:aJ):aE Tryz.prog 157 [.agg (aO a)] (dB (decide (a.kind=1))):=by
 refine aI (F:=zw) Si (by simp[zw]) ?_;simp only[zw]
 repeat' first|refine ak (fun _=> ?_) fun _=> ?_|refine bb trivial trivial ?_|exact ba trivial trivial|fail
 all_goals simp_all
theorem Ur(a:aJ):aE Tryz.prog 158 [.agg (aO a)] (dB (decide (a.kind=1)&&(decide (a.type=2)||decide (a.type=3)))):=by
 refine aI (F:=zx) Sj (by simp[zx]) ?_;simp only[zx]
 repeat' first|refine ak (fun _=> ?_) fun _=> ?_|refine bb trivial trivial ?_|exact ba trivial trivial|fail
 all_goals simp_all
theorem Us(a:aJ):aE Tryz.prog 159 [.agg (aO a)] (dB (decide (a.kind=1)&&decide (a.type=1))):=by
 refine aI (F:=zy) Sk (by simp[zy]) ?_;simp only[zy]
 repeat' first|refine ak (fun _=> ?_) fun _=> ?_|refine bb trivial trivial ?_|exact ba trivial trivial|fail
 all_goals simp_all
theorem Ut(a:aJ):aE Tryz.prog 160 [.agg (aO a)] (dB (decide (a.kind=1)&&decide (a.type=4))):=by
 refine aI (F:=zA) Sl (by simp[zA]) ?_;simp only[zA]
 repeat' first|refine ak (fun _=> ?_) fun _=> ?_|refine bb trivial trivial ?_|exact ba trivial trivial|fail
 all_goals simp_all
theorem Uu(a:aJ)(c:af):aE Tryz.prog 161 [.agg (aO a),.ref (aQ c)] (dB (decide (a.id=c.file)||(decide (a.kind=5)&&decide (a.file=c.file)))):=by
 refine aI (F:=zB) Sm (by simp[zB]) ?_;simp only[zB]
 repeat' first|refine ak (fun _=> ?_) fun _=> ?_|refine bb trivial trivial ?_|exact ba trivial trivial|fail
 all_goals simp_all
theorem JM(k:Int):aE Tryz.prog 163 [dI k] (dI (vK k)):=by
 unfold vK;obtain h|h|h|h|⟨n2,n3,n4,n6⟩:k=2∨k=3∨k=4∨k=6∨(k≠2∧k≠3∧k≠4∧k≠6):=by omega
 iterate 4
  ·subst h;refine aI (F:=rH) IY (by simp[rH]) ?_;simp only[rH]
   repeat' first|refine ak (fun _=> ?_) fun _=> ?_|refine aD ?_|simp only[AV.key,AV.keyK,dC,bw,p6,Int.reduceBEq,Int.reduceEq,wy,qg,aC,reduceCtorEq,reduceIte,Nat.reduceAdd,Nat.reduceMul,Nat.reduceEqDiff,Nat.reduceLT,Nat.reduceLeDiff,Nat.reduceSub,ax,aB,ay,au]
 ·have a:(k==2)=false:=by simpa using n2
  have b:(k==3)=false:=by simpa using n3
  have c:(k==4)=false:=by simpa using n4
  have d:(k==6)=false:=by simpa using n6
  rw[if_neg n2,if_neg n3,if_neg n4,if_neg n6];refine aI (F:=rH) IY (by simp[rH]) ?_;simp only[rH]
  repeat' first|refine ak (fun _=> ?_) fun _=> ?_|refine aD ?_|simp only[AV.key,AV.keyK,dC,bw,p6,Int.reduceBEq,Int.reduceEq,a,b,c,d,wy,qg,aC,reduceCtorEq,reduceIte,Nat.reduceAdd,Nat.reduceMul,Nat.reduceEqDiff,Nat.reduceLT,Nat.reduceLeDiff,Nat.reduceSub,ax,aB,ay,au]
theorem GY(f:FuncId)(a cs:List AV): ∀ds:List D,kb (ds.map .d++[.clo f a cs])=none
 |[]=>rfl
 |d::ds=>by
  show(kb (ds.map .d++[.clo f a cs])).map (d:: ·)=none;rw[GY f a cs ds];rfl
theorem LB(f:FuncId)(a cs:List AV): ∀ds:List D,toLs (ds.map .d++[.clo f a cs])=none
 |[]=>rfl
 |d::ds=>by
  simp only[bO,ma,toLs,LB f a cs ds,AV.toL]
theorem EU(x:ar)(f:FuncId)(a cs:List AV):kb (dZ x (.clo f a cs))=none:=GY f a cs _
theorem KF(x:ar)(f:FuncId)(a cs:List AV):toLs (dZ x (.clo f a cs))=none:=LB f a cs _
theorem lM(x:ar)(a:AV):aV pg 0 34 (dZ x a)=some (dZ x a):=gp FE (ix x a)
theorem XL:br 1 48=true:=by decide
theorem XC(x:ar)(f:FuncId)(cs:List AV)(J:List aa):aT Tryz.prog 156 [.d (.agg (ab x)),.clo f [] cs,.ptr 0 0] (.cells [.nil 34]::J) fun d a=>d= .tup []∧a= .cells [.vec (J.length+1+1) 1 34]::(J++[.vec 154 34 (dZ x (.clo f [] cs)),.vec 154 34 (dZ x (.clo f [] cs))]):=by
 refine aT.of (F:=rI) IZ (by simp[rI]) ?_;simp only[rI];exact bx (ga @M7 (ga @KE (ga @ix (ga @FE (ga @EU (ga @KF (ga @lM (ga @XL @wj)))))))) trivial
 all_goals first|exact⟨_,rfl,rfl⟩|exact⟨rfl,rfl⟩|rfl
theorem XD(x:ar)(f:FuncId)(cs:List AV)(J:List aa)(r n:Nat)(a:List AV)(e:J[r]?=some (.vec 154 34 a))(i:a.length=n*34)(k:n≤1000000):aT Tryz.prog 156 [.d (.agg (ab x)),.clo f [] cs,.ptr 0 0] (.cells [.vec (r+1) n 34]::J) fun d j=>d= .tup []∧j= .cells [.vec (r+1) (n+1) 34]::(J.set r (.vec 154 34 (a++dZ x (.clo f [] cs)))++[.vec 154 34 (dZ x (.clo f [] cs))]):=by
 have h:br (n+1) 48=true:=room_le a8 a8;have b:=(aR.1 e).1;have g:(J++[aa.vec 154 34 (dZ x (.clo f [] cs))])[r]?=some (.vec 154 34 a):=by rw[eQ b,e]
 have c: ∀X:aa,(J++[aa.vec 154 34 (dZ x (.clo f [] cs))]).set r X=J.set r X++[aa.vec 154 34 (dZ x (.clo f [] cs))]:=fun X=>by rw[List.set_append_left _ _ b]
 refine aT.of (F:=rI) IZ (by simp[rI]) ?_;simp only[rI];exact bx (ga @M7 (ga @KE (ga @ix (ga @FE (ga @EU (ga @KF (ga @lM (ga @e (ga @g (ga @c (ga @i (ga @h @wj)))))))))))) trivial
 all_goals first|exact⟨_,rfl,rfl⟩|exact⟨rfl,rfl⟩|rfl
theorem Uv(a:aJ)(c:af):aE Tryz.prog 162 [.agg (aO a),.ref (aQ c)] (dB (decide (c.kind=7)||(decide (a.kind=vK c.kind)&&decide (a.file=c.file)))):=by
 refine aI (F:=zC) Sn (by simp[zC]) ?_;simp only[zC]
 repeat' first|refine ak (fun _=> ?_) fun _=> ?_|refine bb trivial @JM ?_|exact ba trivial @JM|fail
 all_goals simp_all
def ou(v:AV)(J:List aa)(rows:List (ar×FuncId×List AV)):Prop:=(v= .nil 34∧rows=[])∨ ∃r,v= .vec (r+1) rows.length 34∧J[r]?=some (.vec 154 34 (rows.flatMap fun p=>dZ p.1 (.clo p.2.1 [] p.2.2)))
theorem KU: ∀rows:List (ar×FuncId×List AV),(rows.flatMap fun p=>dZ p.1 (.clo p.2.1 [] p.2.2)).length=rows.length*34
 |[]=>rfl
 |p::l=>by rw[nU,aN,ix,KU l,aU];omega
theorem ou.more{v:AV}{J:List aa}{rows:List (ar×FuncId×List AV)}(h:ou v J rows)(o:aa):ou v (J++[o]) rows:=by
 rcases h with⟨b,a⟩|⟨r,b,a⟩
 ·exact .inl ⟨b,a⟩
 ·exact .inr ⟨r,b,by rw[eQ (aR.1 a).1];exact a⟩
theorem XB{v:AV}{J:List aa}{rows:List (ar×FuncId×List AV)}(h:ou v J rows)(x:ar)(f:FuncId)(cs:List AV)(g:rows.length≤1000000):aT Tryz.prog 156 [.d (.agg (ab x)),.clo f [] cs,.ptr 0 0] (.cells [v]::J) fun d b=>d= .tup []∧ ∃e c,b= .cells [e]::c∧ou e c (rows++[(x,f,cs)]):=by
 rcases h with⟨rfl,rfl⟩|⟨r,rfl,h2⟩
 ·refine(XC x f cs J).mono ?_;rintro d b ⟨rfl,rfl⟩;refine⟨rfl,_,_,rfl,.inr ⟨J.length+1,rfl,?_⟩⟩;rw[gZ a8,mR];simp
 ·refine(XD x f cs J r rows.length _ h2 (KU rows) g).mono ?_;rintro d b ⟨rfl,rfl⟩;have a:=(aR.1 h2).1;refine⟨rfl,_,_,rfl,.inr ⟨r,by simp,?_⟩⟩;rw[eQ (by simpa using a),ey,if_pos rfl,if_pos a];simp[List.flatMap_append]
end Go.Proofs.Q
