/- Lemmas. -/
import Derived.Test.YtikhfhjohjfamaaGreatDoorPAF
set_option linter.unusedVariables false
set_option linter.unusedSimpArgs false
set_option maxRecDepth 100000
namespace Go.Proofs.Q
open Go Go.Proofs.Lg
abbrev W(n:Int):Int:=IntKind.i64.wrap n
abbrev bb:=ByteArray
def jz:List (Int×Int)->Int
 |x::l=>if x.1<x.2 then-1 else if x.2<x.1 then 1 else jz l
 |[]=>0
def bY(a b:Dg):Int:=jz (a.l.zip b.l)
def j8{α:Type}[DecidableEq α]:List (α×α)->Bool
 |x::l=>if x.1=x.2 then j8 l else false
 |[]=>true
def same{α:Type}[DecidableEq α](a b:List α):Bool:=if a.length=b.length then j8 (a.zip b)else false
def hasB:List UInt8->Nat->Nat->Bool
 |[],_,_=>true
 |c::l,x,y=>if c.toNat=x\/c.toNat=y then false else hasB l x y
def clean(b:bb)(x y:Nat):Bool:=hasB b.data.toList x y
def mF(b:bb):Bool:=decide ((b.size:Int)<=1000)&&clean b 10 0
def xe:List bb->Int->Int
 |[],n=>n
 |x::l,n=>xe l (W (n+x.size))
def wk(l:List bb):Bool:=decide (40<(l.length:Int))||decide (3000<xe l 0)
def wF(c:UInt8):Bool:=(decide (97<=(c.toNat:Int))&&decide ((c.toNat:Int)<=122))||(decide (65<=(c.toNat:Int))&&decide ((c.toNat:Int)<=90))||(decide (48<=(c.toNat:Int))&&decide ((c.toNat:Int)<=57))||decide ((c.toNat:Int)=46)||decide ((c.toNat:Int)=95)||decide ((c.toNat:Int)=45)
def pe:List UInt8->Bool
 |[]=>true
 |c::l=>if wF c then pe l else false
def isName(b:bb):Bool:=pe b.data.toList&&decide (1<=(b.size:Int))&&decide ((b.size:Int)<=40)&& !decide (b=⟨#[46]⟩)&& !decide (b=⟨#[46,46]⟩)
def isZero(d:Dg):Bool:=decide (d= .zero)
def du(a b:ak):Int:=if bY a.p b.p≠0 then bY a.p b.p else if a.n<b.n then-1 else if b.n<a.n then 1 else 0
def iR:List ak->Bool
 |x::y::r=>if 0<=du x y then false else iR (y::r)
 |_=>true
def kQ(x:ak):List ak->Nat->Nat
 |[],k=>k
 |y::l,k=>if du y x<0 then kQ x l (k+1)else k
def p7(l:List ak)(x:ak):List ak:=if l[kQ x l 0]?=some x then l else l.take (kQ x l 0)++x::l.drop (kQ x l 0)
def eW:List ak->ak->Bool
 |[],_=>false
 |y::l,x=>if y=x then true else eW l x
def mM(c:az):az where
 kind:=c.kind
 file:=if 2<=c.kind/\c.kind<=6 then .zero else c.file
 type:=if c.kind=1 then 0 else c.type
 parent:=if c.kind=2 then .zero else c.parent
 name:=if c.kind=2 then⟨#[]⟩else c.name
 mode:=if c.kind=3 then 0 else c.mode
 data:=if c.kind=4 then⟨#[]⟩else c.data
 after:=if c.kind=5\/c.kind=6 then .zero else c.after
 before:=if c.kind=5\/c.kind=6 then .zero else c.before
 lines:=if c.kind=5 then[]else c.lines
 over:=if c.kind≠1/\c.kind≠5 then[]else c.over
def pY(c:az):Bool:=decide (c.file= .zero)&&(decide (c.type=0)&&(decide (c.parent= .zero)&&(decide (c.name=⟨#[]⟩)&&(decide (c.mode=0)&&(decide (c.data=⟨#[]⟩)&&(decide (c.after= .zero)&&(decide (c.before= .zero)&&(decide ((c.lines.length:Int)=0)&&decide ((c.over.length:Int)=0)))))))))
def mH:List bb->Int
 |[]=>0
 |x::l=>if mF x then mH l else 3
def pb(l:List bb):Int:=if(l.length:Int)=0 then 1 else if 2000<(l.length:Int)then 4 else mH l
def fm(c:az):Int:=
 if c.kind<1\/7<c.kind then 8
 else if pY (mM c)=false then 1
 else if c.kind=1/\(c.type<1\/4<c.type)then 8
 else if c.kind=2/\isName c.name=false then 5
 else if c.kind=3/\(c.mode<0\/511<c.mode)then 2
 else if 65536<(c.data.size:Int)then 4
 else if c.kind=5 then pb c.lines
 else if c.kind=7/\(c.over.length:Int)=0 then 1
 else if 400<(c.over.length:Int)then 4
 else if iR c.over=false then 9
 else 0
def allowed(x:ak)(first:Int):Bool:=if isZero x.p then decide (0<=x.n)&&decide (x.n<first)else decide (0<=x.n)&&decide (x.n<100000)
def xm(k:Int):Int:=if k=7 then 0 else k
def nG(k:Int):Bool:=decide (k=5)||decide (k=6)
def gN(k:Int)(x:ay):Bool:=if x.kind≠1 then false else if nG k then decide (x.type=1)else decide (k≠4)||(decide (x.type=2)||decide (x.type=3))
def oY(f:ak)(x:ay):Bool:=decide (x.kind=5)&&decide (x.file=f)
def ri(k:Int)(f:ak)(x:ay):Bool:=decide (xm k=0)||(decide (x.kind=xm k)&&decide (x.file=f))
def kS(x:ak)(own:List ay)(a:Bool):Int:=if allowed x own.length=false then 7 else if isZero x.p&& !a then 8 else 0
def kO(own:List ay)(x:ak):ay:=if isZero x.p=true/\0<=x.n/\x.n<own.length then(own[x.n.toNat]?).getD .zero else .zero
def wb(c:az)(own:List ay)(x:ak):Int:=kS x own (decide (x=c.file)||oY c.file (kO own x))
def ou(c:az)(own:List ay):List ak->Int
 |[]=>0
 |x::l=>if kS x own (ri c.kind c.file (kO own x))≠0 then kS x own (ri c.kind c.file (kO own x))else ou c own l
def yI(c:az):Int:=if c.kind=2/\c.parent=c.file then 20 else if nG c.kind=true/\c.after=c.before/\(c.kind=6\/c.after≠c.file)then 1 else 0
def c9(a b:Int):Int:=if a≠0 then a else b
def rI(c:az)(own:List ay):Int:=if 2<=c.kind/\c.kind<=6 then kS c.file own (gN c.kind (kO own c.file))else 0
def uM(c:az)(own:List ay):Int:=if c.kind=2/\c.parent≠⟨.zero,-1⟩then kS c.parent own (decide ((kO own c.parent).kind=1)&&decide ((kO own c.parent).type=4))else 0
def rf(c:az)(own:List ay):List ak->Int
 |[]=>0
 |x::l=>if wb c own x≠0 then wb c own x else rf c own l
def tC(c:az)(own:List ay):Int:=if nG c.kind=true then rf c own [c.after,c.before]else 0
def iG(c:az)(own:List ay):Int:=c9 (rI c own) (c9 (uM c own) (c9 (tC c own) (c9 (ou c own c.over) (yI c))))
def eM(n:Int):ak:=⟨.zero,n⟩
def yL(c:az)(first:Nat)(i:Nat)(s:bb):ay:={ay.zero with id:=eM (first+i),kind:=5,file:=c.file,text:=s}
def ra(c:az)(first k i:Nat):ay:={ay.zero with id:=eM (first+k+i),kind:=6,file:=c.file,fro:=if 0<i then eM (first+i-1)else c.after,til:=if i<k then eM (first+i)else c.before}
def fK(c:az)(first:Nat):List ay:=
 if c.kind=1 then[{ay.zero with id:=eM first,kind:=1,file:=eM first,type:=c.type}]
 else if c.kind=2 then[{ay.zero with id:=eM first,kind:=2,file:=c.file,parent:=c.parent,name:=c.name,over:=c.over}]
 else if c.kind=3 then[{ay.zero with id:=eM first,kind:=3,file:=c.file,mode:=c.mode,over:=c.over}]
 else if c.kind=4 then[{ay.zero with id:=eM first,kind:=4,file:=c.file,data:=c.data,over:=c.over}]
 else if c.kind=6 then[{ay.zero with id:=eM first,kind:=6,file:=c.file,fro:=c.after,til:=c.before,over:=c.over}]
 else if c.kind=7 then[{ay.zero with id:=eM first,kind:=7,over:=c.over}]
 else(c.lines.mapIdx (yL c first))++(List.range (c.lines.length+1)).map (ra c first c.lines.length)
def eH:List az->List ay->List ay×Int
 |[],own=>(own,0)
 |c::l,own=>if fm c≠0 then([],fm c)else if iG c own≠0 then([],iG c own)else eH l (own++fK c own.length)
def jy:Option Dg->List Dg->Int
 |_,[]=>0
 |p,d::l=>if isZero d then 1 else if(p.map λq=>decide (0<=bY q d))=some true then 9 else jy (some d) l
def iz(l:List Dg):Int:=if 100<(l.length:Int)then 4 else jy none l
def dN(p:aU):List ay×Int:=
 if isName p.author=false then([],5)
 else if 1000<(p.message.size:Int)then([],4)
 else if p.time<0\/1099511627776<p.time then([],2)
 else if iz p.deps≠0 then([],iz p.deps)
 else if(p.changes.length:Int)=0 then([],1)
 else if 400<(p.changes.length:Int)then([],4)
 else eH p.changes []
end Go.Proofs.Q
namespace Go.Proofs.Q
open Go Go.Bb Go.Proofs.Lg
open Go.Ab (D)
def str(l:List UInt8):bb:=⟨l.toArray⟩
def nn(n:Nat):UInt8:=UInt8.ofNat (48+n % 10)
def gB:Nat->Nat->List UInt8
 |0,n=>[nn n]
 |f+1,n=>if n<10 then[nn n]else gB f (n/10)++[nn n]
def dec(n:Int):bb:=if n<0 then str (45::gB 19 (-n).toNat)else str (gB 19 n.toNat)
def eX:Nat->Sx->Prop
 |0,_=>False
 |d+1,.mk b a l=>(b=false/\l=[]/\a.size<=65536)\/(b=true/\a=⟨#[]⟩/\ ∀x∈l,eX d x)
def bW:Nat->Sx->Nat
 |0,_=>0
 |d+1,.mk b _ l=>if b then 1+(l.map (bW d)).sum else 1
def iq:Nat->Sx->bb
 |0,_=>⟨#[]⟩
 |d+1,.mk b a l=>if b then l.foldl (λs x=>s++iq d x) (str [40])++str [41]else dec a.size++str [58]++a
def jM(x:Sx):bb:=iq 6 x
def dC(a:bb):Sx:= .mk false a []
def de(l:List Sx):Sx:= .mk true ⟨#[]⟩ l
def cU(n:Int):Sx:=if n< -1099511627776\/1099511627776<n then .mk false ⟨#[]⟩ []else dC (dec n)
def sD(d:Dg):bb:=str (d.l.map λb=>UInt8.ofNat b.toNat)
def gK(d:Dg):Sx:=if isZero d then dC ⟨#[]⟩else dC (sD d)
def bO(x:ak):Sx:=de [gK x.p,cU x.n]
def fu(l:List ak):Sx:=de (l.map bO)
def cD(c:az):Sx:=de<|
 [cU c.kind]++(if 2<=c.kind/\c.kind<=6 then[bO c.file]else[])++
 (if c.kind=1 then[cU c.type]else if c.kind=2 then[bO c.parent,dC c.name]else if c.kind=3 then[cU c.mode]else if c.kind=4 then[dC c.data]else if c.kind=5\/c.kind=6 then[bO c.after,bO c.before]else[])++
 (if c.kind=5 then[de (c.lines.map dC)]else if c.kind=1 then[]else[fu c.over])
def jQ(p:aU):Sx:=de [dC (str [113,117,105,108,116,49]),dC p.author,dC p.message,cU p.time,de (p.deps.map gK),de (p.changes.map cD)]
def oX(p:aU):bb×Int:=if 65536<(jM (jQ p)).size then(⟨#[]⟩,4)else(jM (jQ p),0)
def cQ(p:aU):bb×Int:=if(dN p).2≠0 then(⟨#[]⟩,(dN p).2)else oX p
def gj(p:aU):Int:=(cQ p).2
def whole(x:ak)(d:Dg):ak:=if isZero x.p=true/\0<=x.n then{x with p:=d}else x
def gO:List ak->List ak->List ak
 |[],l=>l
 |x::r,l=>gO r (p7 l x)
def wi(d:Dg)(x:ay):ay:=
 let x:={x with id:={x.id with p:=d}}
 let x:=if x.kind≠7 then{x with file:=whole x.file d}else x;let x:=if x.kind=2 then{x with parent:=whole x.parent d}else x;let x:=if x.kind=6 then{x with fro:=whole x.fro d,til:=whole x.til d}else x
 {x with over:=gO (x.over.map (whole · d)) []}
def kX(d:Dg):List Dg->Nat->Nat
 |[],k=>k
 |y::l,k=>if bY y d<0 then kX d l (k+1)else k
def lY(l:List Dg)(d:Dg):List Dg:=if l[kX d l 0]?=some d then l else l.take (kX d l 0)++d::l.drop (kX d l 0)
def gZ:List Dg->List Dg->List Dg
 |[],l=>l
 |d::r,l=>gZ r (lY l d)
def nL:List ak->List Dg->List Dg
 |[],l=>l
 |x::r,l=>nL r (if isZero x.p then l else lY l x.p)
def iV(c:az):List ak:=c.file::c.parent::c.after::c.before::c.over
def oq:List az->List Dg->List Dg
 |[],l=>l
 |c::r,l=>oq r (nL (iV c) l)
def bu(p:aU):List Dg:=if gj p≠0 then[]else oq p.changes (gZ p.deps [])
def sI:List az->Int->Option Int
 |[],n=>some n
 |c::l,n=>if wk c.lines=true\/40<c.over.length then none else sI l (W (W (n+c.name.size)+c.data.size))
def lH(p:aU):Bool:=match sI p.changes (W (p.author.size+p.message.size))with
 |none=>true
 |some n=>decide (3000<n)||(decide (20<p.deps.length)||decide (20<p.changes.length))
section
variable (H:bb->Dg)
def bj(p:aU):Dg×Int:=if(cQ p).2≠0 then(.zero,(cQ p).2)else(H (cQ p).1,0)
def ew(p:aU):List ay×Int:=if(bj H p).2≠0 then([],(bj H p).2)else((dN p).1.map (wi (bj H p).1),0)
abbrev ar:=List bD
def bI:List Dg->Dg->Bool
 |[],_=>false
 |y::l,d=>if y=d then true else bI l d
def bh:ar->Dg->Option aU
 |[],_=>none
 |x::s,d=>if x.id=d then some x.pat else bh s d
def b8(s:ar):List Dg:=s.map (·.id)
def gz(l:List Dg):List Dg->Bool
 |[]=>true
 |d::r=>if bI l d then gz l r else false
def km(out:List Dg):ar->Nat->Option (Nat×Dg)->Option (Nat×Dg)
 |[],_,k=>k
 |x::s,i,k=>km out s (i+1) (if !bI out x.id&&(gz out (bu x.pat)&&(match k with|none=>true|some q=>decide (bY x.id q.2<0)))then some (i,x.id)else k)
def lP(s:ar):Nat->List Dg->List Dg
 |0,out=>out
 |f+1,out=>match km out s 0 none with
  |none=>out
  |some q=>lP s f (out++[q.2])
def dD(s:ar):List Dg:=lP s s.length []
def ng(s:ar)(x:ak):Option ay:=if x.n<0\/((ew H ((bh s x.p).getD .zero)).1.length:Int)<=x.n then none else(ew H ((bh s x.p).getD .zero)).1[x.n.toNat]?
def j7(s:ar)(x:ak)(b:ay->Bool):Int:=if isZero x.p then 0 else match ng H s x with
 |none=>7
 |some a=>if b a then 0 else 8
def np(x:ay):Bool:=decide (x.kind=1)&&decide (x.type=4)
def nr(s:ar)(x file:ak)(id:Dg):Int:=if isZero x.p=true\/x=file then 0 else j7 H s x (oY (whole file id))
def mJ(s:ar)(c:az)(id:Dg):List ak->Int
 |[]=>0
 |x::l=>c9 (j7 H s x (ri c.kind (whole c.file id))) (mJ s c id l)
def ni(s:ar)(c:az)(id:Dg):Int:=
 c9 (j7 H s c.file (gN c.kind))<|c9 (j7 H s c.parent np)<|c9 (nr H s c.after c.file id)<|c9 (nr H s c.before c.file id)<|mJ H s c id c.over
def iw(s:ar)(id:Dg):List az->Int
 |[]=>0
 |c::l=>c9 (ni H s c id) (iw s id l)
def pT:Option Dg->ar->Int
 |_,[]=>0
 |p,x::s=>if(bj H x.pat).2≠0 then(bj H x.pat).2 else if(bj H x.pat).1≠x.id then 13 else if(p.map λq=>decide (0<=bY q x.id))=some true then 9 else pT (some x.id) s
def pW(ids:List Dg):ar->Int
 |[]=>0
 |x::s=>if gz ids (bu x.pat)then pW ids s else 19
def rK(s:ar):ar->Int
 |[]=>0
 |x::r=>c9 (iw H s x.id x.pat.changes) (rK s r)
def gl(s:ar):Int:=
 if 400<s.length then 4 else c9 (pT H none s)<|c9 (pW (b8 s) s)<|if(dD s).length<s.length then 20 else rK H s s
def putAt(d:Dg):ar->Nat->Nat
 |[],k=>k
 |y::l,k=>if bY y.id d<0 then putAt d l (k+1)else k
def gQ(s:ar)(x:bD):ar:=s.take (putAt x.id s 0)++x::s.drop (putAt x.id s 0)
def eZ(s:ar)(p:aU):ar×Dg×Int:=
 if(bj H p).2≠0 then([],.zero,(bj H p).2)
 else match bh s (bj H p).1 with
 |some q=>if p=q then([],.zero,6)else([],.zero,14)
 |none=>if gz (b8 s) (bu p)=false then([],.zero,19)
  else if iw H s (bj H p).1 p.changes≠0 then([],.zero,iw H s (bj H p).1 p.changes)
  else if 400<=s.length then([],.zero,4)
  else(gQ s ⟨(bj H p).1,p⟩,(bj H p).1,0)
def oo(s:ar):List Dg->List Dg->List Dg
 |[],more=>more
 |d::l,more=>oo s l (gZ (bu ((bh s d).getD .zero)) more)
def nj(s:ar):Nat->List Dg->List Dg
 |0,out=>out
 |n+1,out=>nj s n (oo s out out)
def my(s:ar)(ids:List Dg):List Dg×Int:=if gz (b8 s) ids then(nj s s.length (gZ ids []),0)else([],7)
def xj(l:List Dg)(d:Dg):List Dg->List Dg->List Dg
 |[],out=>out
 |x::ids,out=>xj l d ids (if bI l x then lY out d else out)
def vg(s:ar)(ids:List Dg):ar->List Dg->List Dg
 |[],out=>out
 |x::r,out=>vg s ids r (xj (my s [x.id]).1 x.id ids out)
def fS(s:ar)(ids:List Dg):List Dg×Int:=if gz (b8 s) ids then(vg s ids s [],0)else([],7)
def JS(s:ar)(p q:Dg):Bool:=decide ((my s [p]).2=0)&&(bI (b8 s) q&&bI (my s [p]).1 q)
def wo:List az->Int->Int
 |[],n=>n
 |c::l,n=>wo l (W (W (W (n+1)+c.lines.length)+c.over.length))
def sJ(a:Nat):ar->Nat->Int->Option Int
 |[],_,n=>some n
 |x::s,i,n=>if i<=a then(if lH x.pat then none else sJ a s (i+1) (wo x.pat.changes n))else some n
def wq(s:ar)(a:Nat):Bool:=match sJ a s 0 0 with
 |none=>true
 |some n=>decide (a<s.length)||decide (300<n)
def qb(s:ar):Bool:=wq s 8
def o8(s:ar):Bool:= !qb s&&decide (gl H s=0)
def kY(ids:List Dg)(s:ar):ar:=s.filter λx=> !bI ids x.id
def sU(d:Dg):ar->Bool
 |[]=>false
 |x::s=>if bI (bu x.pat) d then true else sU d s
def eT(s:ar)(d:Dg):ar×Int:=if bh s d=none then([],7)else if sU d s then([],19)else(kY [d] s,0)
def rD(s:ar)(ids:List Dg):ar×List Dg×Int:=if ids.any λd=>decide (bh s d=none)then([],[],7)else if(fS s ids).2≠0 then([],[],(fS s ids).2)else(kY (fS s ids).1 s,(fS s ids).1,0)
end
end Go.Proofs.Q
