/- Part of a proof. -/
import Derived.Test.YtfoljakejdgfcaaGreatDoorPAE
set_option linter.unusedVariables false
set_option linter.unusedSimpArgs false
namespace Go.Bb
open Go Go.RowKit Go.Ab Go.Proofs.Lg
theorem ck{n:Int}{m:Nat}(h:n=m)(hm:m<9223372036854775808):Go.IntKind.i64.wrap n=(m:Int):=by
 subst h;simp only[Go.IntKind.wrap,Go.IntKind.bits,Go.IntKind.signed];have:((m:Int) % 2^64)=m:=by omega
 simp only[this];simp;omega
def df(P:Program)(l:List CO)(K:Fr→List aa→List Nat→Prop)(a:List Nat)(fr:Fr)(dst:Option Nat)(m:Nat)(b:List aa)(d:AV):Prop:=bH P l K (m::a) (cG fr dst d) b
def uO(P:Program)(l:List CO)(K:Fr→List aa→List Nat→Prop)(a:List Nat)(fr:Fr)(dst:Option Nat)(m:Nat):Option (AV×List aa)→Prop
 |some (d,s')=>df P l K a fr dst m s' d
 |none=>False
def uB(P:Program)(l:List CO)(K:Fr→List aa→List Nat→Prop)(a:List Nat)(fr:Fr)(dst:Option Nat)(s:List aa):Option AV→Option (List AV)→Prop
 |some cv,some vs=>aj P cv vs s (sL P l K a fr dst)
 |_,_=>False
def gu(P:Program)(ci:CI)(dst:Option Nat)(l:List CO)(K:Fr→List aa→List Nat→Prop)(a:List Nat)(fr:Fr)(s:List aa):Prop:=match ci with
 | .call c xs=>uB P l K a fr dst s (pO fr c) (jb fr xs)
 |ci=>uO P l K a fr dst (ci.mark fr) (ci.sem fr s)
def lY(P:Program)(ci:CI)(dst:Option Nat)(l:List CO)(K:Fr→List aa→List Nat→Prop)(a:List Nat)(fr:Fr)(s:List aa):Option Bool→Prop
 |some b=>lf b (df P l K a fr dst 0 s lQ) (gu P ci dst l K a fr s)
 |none=>False
def lW(P:Program)(rd:Option Nat)(a b:CC)(Q:Exit→Fr→List aa→Prop)(fr:Fr)(s:List aa):Option Bool→Prop
 |some v=>lf v (bR P rd b Q fr s) (bR P rd a Q fr s)
 |none=>False
section
variable {P:Program} {rd:Option Nat} {Q:Exit→Fr→List aa→Prop} {l:List CO} {K:Fr→List aa→List Nat→Prop} {acc:List Nat} {fr fr':Fr} {s s':List aa} {dst:Option Nat} {ci:CI} {m:Nat} {c:CC}
@[congr] theorem a0l {o o':Option (AV×List aa)} (h:o=o'):uO P l K acc fr dst m o=uO P l K acc fr dst m o':=by rw[h]
@[congr] theorem a0k {d a:AV} (h:d=a):df P l K acc fr dst m s d=df P l K acc fr dst m s a:=by rw[h]
@[congr] theorem a0b {o o':Option AV} {u a:Option (List AV)} (h:o=o') (b:u=a):uB P l K acc fr dst s o u=uB P l K acc fr dst s o' a:=by rw[h,b]
@[congr] theorem a0g {o o':Option Bool} (h:o=o'):lY P ci dst l K acc fr s o=lY P ci dst l K acc fr s o':=by rw[h]
@[congr] theorem a0f {a b:CC} {o o':Option Bool} (h:o=o'):lW P rd a b Q fr s o=lW P rd a b Q fr s o':=by rw[h]
@[congr] theorem a0h (h:s=s'):gu P ci dst l K acc fr s=gu P ci dst l K acc fr s':=by rw[h]
@[congr] theorem a0n (h:s=s'):bH P l K acc fr s=bH P l K acc fr s':=by rw[h]
@[congr] theorem a0o (a:fr=fr') (h:s=s'):bR P rd c Q fr s=bR P rd c Q fr' s':=by rw[a,h]
@[congr] theorem a0i (h:s=s'):aX P rd c Q fr s=aX P rd c Q fr s':=by rw[h]
@[congr] theorem a0d {a:AV} {vs:List AV} {k:AV→List aa→Nat→Prop} (h:s=s'):aj P a vs s k=aj P a vs s' k:=by rw[h]
@[congr] theorem a0e {d a:AV} {b:Nat} (h:s=s') (c:d=a):sL P l K acc fr dst d s b=sL P l K acc fr dst a s' b:=by rw[h,c]
end
section
variable (P:Program) (rd:Option Nat) (Q:Exit→Fr→List aa→Prop) (l:List CO) (K:Fr→List aa→List Nat→Prop) (acc:List Nat) (fr:Fr) (s s':List aa) (dst:Option Nat) (ci:CI) (m:Nat) (t:Nat)
theorem wM(g:Option (Option Nat×Bool)):bH P (⟨dst,g,ci⟩::l) K acc fr s=lY P ci dst l K acc fr s (lF fr g):=by
 rw[Z7];cases h:lF fr g with
 |none=>simp only[h,lY]
 |some b=>
  simp only[h,lY,gu,df];refine congrArg _ ?_;cases ci with
  |call c xs=>cases d:pO fr c<;>cases e:jb fr xs<;>rfl
  |_=>first|rfl|(split<;>rename_i a<;>rw[a]<;>rfl)
theorem wV:lY P ci dst l K acc fr s (some true)=gu P ci dst l K acc fr s:=by simp only[lY,FJ]
theorem Mm:lY P ci dst l K acc fr s (some false)=df P l K acc fr dst 0 s lQ:=by simp only[lY,FI]
theorem lR(d:Nat):bH P (o0 d ci::l) K acc fr s=gu P ci (some d) l K acc fr s:=by unfold o0;rw[wM];exact wV ..
theorem LX:bH P (oN ci::l) K acc fr s=gu P ci none l K acc fr s:=by unfold oN;rw[wM];exact wV ..
theorem Zm(d:Nat):bH P (om d t::l) K acc fr s=gu P (.mov (.t t)) (some d) l K acc fr s:=by unfold om;rw[wM];exact wV ..
def o1(d n t:Nat):CO:=o0 d (.fad n (.t t))
theorem Z9(d n t:Nat):bH P (o1 d n t::l) K acc fr s=gu P (.fad n (.t t)) (some d) l K acc fr s:=lR ..
def o2(d n t:Nat):CO:=o0 d (.ld (some n) (.t t))
theorem Za(d n t:Nat):bH P (o2 d n t::l) K acc fr s=gu P (.ld (some n) (.t t)) (some d) l K acc fr s:=lR ..
def o3(d t:Nat):CO:=o0 d (.ld none (.t t))
theorem Zb(d t:Nat):bH P (o3 d t::l) K acc fr s=gu P (.ld none (.t t)) (some d) l K acc fr s:=lR ..
def o4(d:Nat)(o:BinOp)(a b:Nat):CO:=o0 d (.bin o (.t a) (.t b))
theorem Zc(d:Nat)(o:BinOp)(a b:Nat):bH P (o4 d o a b::l) K acc fr s=gu P (.bin o (.t a) (.t b)) (some d) l K acc fr s:=lR ..
def o5(d:Nat)(o:BinOp)(a:Nat)(n:Int):CO:=o0 d (.bin o (.t a) (xi n))
theorem Zd(d:Nat)(o:BinOp)(a:Nat)(n:Int):bH P (o5 d o a n::l) K acc fr s=gu P (.bin o (.t a) (xi n)) (some d) l K acc fr s:=lR ..
def o6(d f:Nat)(a:List X):CO:=o0 d (.call (.fn f) a)
theorem Ze(d f:Nat)(a:List X):bH P (o6 d f a::l) K acc fr s=gu P (.call (.fn f) a) (some d) l K acc fr s:=lR ..
def o7(d:Nat)(n:Int):CO:=o0 d (.mov (xi n))
theorem Zf(d:Nat)(n:Int):bH P (o7 d n::l) K acc fr s=gu P (.mov (xi n)) (some d) l K acc fr s:=lR ..
def o9(d n t:Nat):CO:=o0 d (.len n (.t t))
theorem Zh(d n t:Nat):bH P (o9 d n t::l) K acc fr s=gu P (.len n (.t t)) (some d) l K acc fr s:=lR ..
def oi(d n a b:Nat):CO:=o0 d (.iad n (.t a) (.t b))
theorem Zl(d n a b:Nat):bH P (oi d n a b::l) K acc fr s=gu P (.iad n (.t a) (.t b)) (some d) l K acc fr s:=lR ..
def oe(d t n:Nat):CO:=o0 d (.ext (.t t) n)
theorem Zi(d t n:Nat):bH P (oe d t n::l) K acc fr s=gu P (.ext (.t t) n) (some d) l K acc fr s:=lR ..
def ox(d t:Nat):CO:=o0 d (.bxf (.t t))
theorem Zn(d t:Nat):bH P (ox d t::l) K acc fr s=gu P (.bxf (.t t)) (some d) l K acc fr s:=lR ..
def o8(n a b:Nat):CO:=oN (.st n (.t a) (.t b))
theorem Zg(n a b:Nat):bH P (o8 n a b::l) K acc fr s=gu P (.st n (.t a) (.t b)) none l K acc fr s:=LX ..
theorem Zj(d:Nat)(b:Bool):bH P (og d t b ci::l) K acc fr s=lY P ci (some d) l K acc fr s (lF fr (some (some t,b))):=by unfold og;rw[wM]
theorem Zk(d n:Nat)(b:Bool):bH P (oh d t b n::l) K acc fr s=lY P (.mov (.t n)) (some d) l K acc fr s (lF fr (some (some t,b))):=by unfold oh;rw[wM]
theorem Mn:gu P ci dst l K acc fr s=match ci with
 | .call c xs=>uB P l K acc fr dst s (pO fr c) (jb fr xs)
 |ci=>uO P l K acc fr dst (ci.mark fr) (ci.sem fr s):=propext dj
theorem MZ(d:AV):uO P l K acc fr dst m (some (d,s'))=df P l K acc fr dst m s' d:=propext dj
theorem Md(c:AV)(vs:List AV):uB P l K acc fr dst s (some c) (some vs)=aj P c vs s (sL P l K acc fr dst):=propext dj
theorem Zr(c:X)(a b:CC):bR P rd (.cond c a b) Q fr s=lW P rd a b Q fr s ((c.ev fr).bind AV.bool?):=by
 rw[Zp];cases h:(c.ev fr).bind AV.bool? <;>simp only[h,lW]
theorem Mk(a b:CC):lW P rd a b Q fr s (some true)=bR P rd a Q fr s:=by simp only[lW,FJ]
theorem Mj(a b:CC):lW P rd a b Q fr s (some false)=bR P rd b Q fr s:=by simp only[lW,FI]
theorem ME(d:AV):df P l K acc fr none m s d=bH P l K (m::acc) fr s:=propext dj
theorem Mv(d:AV):df P l K acc fr (some t) m s d=bH P l K (m::acc) ((t,d)::fr) s:=propext dj
theorem Ms:df P l K acc fr (some t) m s (.d (.sc (.bool true)))=bH P l K (m::acc) ((t,.d (.sc (.bool true)))::fr) s:=propext dj
theorem Mr:df P l K acc fr (some t) m s (.d (.sc (.bool false)))=bH P l K (m::acc) ((t,.d (.sc (.bool false)))::fr) s:=propext dj
theorem My(k:IntKind)(n:Int):df P l K acc fr (some t) m s (.d (.sc (.int k n)))=bH P l K (m::acc) ((t,.d (.sc (.int k n)))::fr) s:=propext dj
theorem MH(b:ByteArray):df P l K acc fr (some t) m s (.d (.sc (.string b)))=bH P l K (m::acc) ((t,.d (.sc (.string b)))::fr) s:=propext dj
theorem MK(b:Array Value):df P l K acc fr (some t) m s (.d (.sc (.tuple b)))=bH P l K (m::acc) ((t,.d (.sc (.tuple b)))::fr) s:=propext dj
theorem Mz(b:Option Nat):df P l K acc fr (some t) m s (.d (.sc (.map b)))=bH P l K (m::acc) ((t,.d (.sc (.map b)))::fr) s:=propext dj
theorem Mt(cs:List D):df P l K acc fr (some t) m s (.d (.agg cs))=bH P l K (m::acc) ((t,.d (.agg cs))::fr) s:=propext dj
theorem MJ(n:Nat)(cs:List (List D)):df P l K acc fr (some t) m s (.d (.sl n cs))=bH P l K (m::acc) ((t,.d (.sl n cs))::fr) s:=propext dj
theorem MG(cs:List D):df P l K acc fr (some t) m s (.d (.ref cs))=bH P l K (m::acc) ((t,.d (.ref cs))::fr) s:=propext dj
theorem MM(cs:List D):df P l K acc fr (some t) m s (.d (.tup cs))=bH P l K (m::acc) ((t,.d (.tup cs))::fr) s:=propext dj
theorem ML(id sz:Nat)(rows:List (List D)):df P l K acc fr (some t) m s (.tsl id sz rows)=bH P l K (m::acc) ((t,.tsl id sz rows)::fr) s:=propext dj
theorem MC(sz:Nat):df P l K acc fr (some t) m s (.nil sz)=bH P l K (m::acc) ((t,.nil sz)::fr) s:=propext dj
theorem Mx(sz:Nat):df P l K acc fr (some t) m s (.emp sz)=bH P l K (m::acc) ((t,.emp sz)::fr) s:=propext dj
theorem MF(a b:Nat):df P l K acc fr (some t) m s (.ptr a b)=bH P l K (m::acc) ((t,.ptr a b)::fr) s:=propext dj
theorem MO(a b c:Nat):df P l K acc fr (some t) m s (.vec a b c)=bH P l K (m::acc) ((t,.vec a b c)::fr) s:=propext dj
theorem MP(a b c:Nat):df P l K acc fr (some t) m s (.vptr a b c)=bH P l K (m::acc) ((t,.vptr a b c)::fr) s:=propext dj
theorem MR(a b c e:Nat):df P l K acc fr (some t) m s (.win a b c e)=bH P l K (m::acc) ((t,.win a b c e)::fr) s:=propext dj
theorem MQ(a b c e f:Nat):df P l K acc fr (some t) m s (.vwn a b c e f)=bH P l K (m::acc) ((t,.vwn a b c e f)::fr) s:=propext dj
theorem MA(a:Nat):df P l K acc fr (some t) m s (.mp a)=bH P l K (m::acc) ((t,.mp a)::fr) s:=propext dj
theorem MS(a:Nat):df P l K acc fr (some t) m s (.yld a)=bH P l K (m::acc) ((t,.yld a)::fr) s:=propext dj
theorem Mw(f:FuncId)(a b:List AV):df P l K acc fr (some t) m s (.clo f a b)=bH P l K (m::acc) ((t,.clo f a b)::fr) s:=propext dj
theorem Mu(a:List AV):df P l K acc fr (some t) m s (.agg a)=bH P l K (m::acc) ((t,.agg a)::fr) s:=propext dj
theorem MN(a:List AV):df P l K acc fr (some t) m s (.tup a)=bH P l K (m::acc) ((t,.tup a)::fr) s:=propext dj
theorem Me(d:AV)(a:Nat):sL P l K acc fr dst d s a=df P l K acc fr dst a s d:=propext dj
end
theorem Mo(a:List Nat)(Q:Exit→Fr→List aa→Prop)(fr:Fr)(s:List aa)(b:List Nat):pB false a Q fr s b=Q .normal fr s:=propext ⟨fun h=>h.2,fun h=>⟨fun e=>(nomatch e),h⟩⟩
theorem wY{a:List Nat}{Q:Exit→Fr→List aa→Prop}{fr:Fr}{s:List aa}{b:List Nat}(h:sj a b=true)(k:Q .normal fr s):pB true a Q fr s b:=⟨fun _=>h,k⟩
@[congr] theorem a0j {b:Bool} {a:List Nat} {Q:Exit→Fr→List aa→Prop} {fr:Fr} {s d:List aa} {c:List Nat} (h:s=d):pB b a Q fr s c=pB b a Q fr d c:=by rw[h]
theorem natLit(n:Nat):((no_index (OfNat.ofNat n):Nat):Int)=OfNat.ofNat n:=rfl
theorem df.both{P:Program}{l:List CO}{K:Fr→List aa→List Nat→Prop}{a:List Nat}{fr:Fr}{t m:Nat}{s:List aa}{v:Bool}(b:v=true→bH P l K (m::a) ((t,.d (.sc (.bool true)))::fr) s)(h0:v=false→bH P l K (m::a) ((t,.d (.sc (.bool false)))::fr) s):df P l K a fr (some t) m s (.d (.sc (.bool v))):=by
 cases v with
 |true=>exact b rfl
 |false=>exact h0 rfl
theorem df.dec{P:Program}{l:List CO}{K:Fr→List aa→List Nat→Prop}{a:List Nat}{fr:Fr}{t m:Nat}{s:List aa}{p:Prop}[Decidable p](b:p→bH P l K (m::a) ((t,.d (.sc (.bool true)))::fr) s)(h0: ¬p→bH P l K (m::a) ((t,.d (.sc (.bool false)))::fr) s):df P l K a fr (some t) m s (.d (.sc (.bool (decide p)))):=by
 by_cases h:p
 ·rw[decide_eq_true h];exact b h
 ·rw[decide_eq_false h];exact h0 h
theorem df.ndec{P:Program}{l:List CO}{K:Fr→List aa→List Nat→Prop}{a:List Nat}{fr:Fr}{t m:Nat}{s:List aa}{p:Prop}[Decidable p](b: ¬p→bH P l K (m::a) ((t,.d (.sc (.bool true)))::fr) s)(h0:p→bH P l K (m::a) ((t,.d (.sc (.bool false)))::fr) s):df P l K a fr (some t) m s (.d (.sc (.bool (!decide p)))):=by
 by_cases h:p
 ·rw[decide_eq_true h];exact h0 h
 ·rw[decide_eq_false h];exact b h
theorem lW.both{P:Program}{rd:Option Nat}{a b:CC}{Q:Exit→Fr→List aa→Prop}{fr:Fr}{s:List aa}{v:Bool}(c:v=true→bR P rd a Q fr s)(h0:v=false→bR P rd b Q fr s):lW P rd a b Q fr s (some v):=⟨h0,c⟩
theorem Zx(P:Program)(rd:Option Nat)(keep:List Nat)(c:CC)(Q:Exit→Fr→List aa→Prop)(fr:Fr)(s:List aa):bR P rd (.trim keep c) Q fr s=bR P rd c Q (dV keep fr) s:=propext dj
def xT:X:= .c (.d (.sc (.bool true)))
def xF:X:= .c (.d (.sc (.bool false)))
theorem XK(fr:Fr):dV [] fr=[]:=rfl
theorem wi(t:Nat)(l:List Nat)(fr:Fr):dV (t::l) fr=match look fr t with
  |some x=>(t,x)::dV l fr
  |none=>dV l fr:=by
 unfold dV;rw[List.filterMap_cons];cases look fr t<;>rfl
theorem Bp: ∀(keep:List Nat) (fr:Fr) (t:Nat),t∈keep→look (dV keep fr) t=look fr t
 |[],_,_,h=>by cases h
 |u::l,fr,t,h=>by
  rw[wi];by_cases e:u=t
  ·subst e;cases a:look fr u with
   |some x=>simp[look]
   |none=>
    by_cases hm:u∈l
    ·rw[Bp l fr u hm,a]
    ·simp only[];cases b:look (dV l fr) u with
     |none=>rfl
     |some y=>have:=BQ l fr u y b;rw[a]at this;cases this
  ·have hm:t∈l:=by cases h with
    |head=>exact absurd rfl e
    |tail _ h=>exact h
   cases a:look fr u with
   |some x=>simp only[look,if_neg e];exact Bp l fr t hm
   |none=>exact Bp l fr t hm
theorem KI: ∀{keep:List Nat} {fr fr':Fr},(∀t∈keep,look fr t=look fr' t)→dV keep fr=dV keep fr'
 |[],_,_,_=>rfl
 |t::l,fr,fr',h=>by
  rw[wi,wi,h t (by simp),KI (fun u a=>h u (by simp[a]))]
theorem KJ(keep:List Nat)(fr:Fr):dV keep (dV keep fr)=dV keep fr:=KI fun t h=>Bp keep fr t h
def iP:List Nat→Fr→Fr→Prop
 |[],_,_=>True
 |t::l,fr,fr'=>SameO (look fr t) (look fr' t)∧iP l fr fr'
where SameO:Option AV→Option AV→Prop
 |some x,o=>o=some x
 |none,_=>True
theorem iP.sub: ∀{keep:List Nat} {fr fr':Fr},iP keep fr fr'→Sub (dV keep fr) fr'
 |[],_,fr',_=>Sub.nil fr'
 |t::l,fr,fr',h=>by
  obtain⟨a,b⟩:=h;rw[wi];cases c:look fr t with
  |none=>exact b.sub
  |some x=>rw[c]at a;exact Sub.cons a b.sub
theorem Sub.trans{a b c:Fr}(h:Sub a b)(k:Sub b c):Sub a c:=fun t x d=>k t x (h t x d)
theorem aX.tr{P:Program}{rd:Option Nat}{keep:List Nat}{c:CC}{Q:Exit→Fr→List aa→Prop}{fr fr0:Fr}{s:List aa}{β:Type}(F:β→Fr)(S:β→List aa)(I:Nat→β→Prop)(m:Nat)(b:β)(p:dV keep fr=fr0)(h0:iP keep (F b++fr0) fr0)(o:s=S b)(n:I m b)
  (h: ∀m b,I m b→bR P rd c (fp (fun fr' g=> ∃d a,d<m∧iP keep (F a++fr0) fr'∧g=S a∧I d a) Q) (dV keep (F b++fr0)) (S b)):aX P rd (.trim keep c) Q fr s:=by
 refine aX.intro (fun m fr s=> ∃b,fr=dV keep (F b++fr0)∧s=S b∧I m b) m (dV keep (F b++fr0)) (h0.sub.trans (by rw[←p];exact BQ keep fr)) ⟨b,rfl,o,n⟩ ?_;rintro m _ _ ⟨b,rfl,rfl,hi⟩;show bR P rd c _ (dV keep (dV keep (F b++fr0))) (S b);rw[KJ];refine kG (h m b hi) fun e fr' g f=> ?_;cases e with
 |normal=>obtain⟨d,a,i,j,k,l⟩:=f;exact⟨d,_,i,j.sub,a,rfl,k,l⟩
 |_=>exact f
theorem aX.over{P:Program}{rd:Option Nat}{keep:List Nat}{c:CC}{Q:Exit→Fr→List aa→Prop}{fr fr0:Fr}{s:List aa}{α β γ:Type}(l:List α)(F:Nat→β→Fr)(S:Nat→β→List aa)(g:List α→β→γ)(R:γ)(b:β)(u:l.length≤9223372036854775807)
  (t:dV keep fr=fr0) (h0:iP keep (F 0 b++fr0) fr0) (r:s=S 0 b) (q:R=g l b)
  (h: ∀k b y,l[k]?=some y→k<l.length→decide ((k:Int)<(l.length:Int))=true→IntKind.i64.wrap ((k:Int)+1)=((k+1:Nat):Int)→R=g (y::l.drop (k+1)) b→
   bR P rd c (fp (fun fr' j=> ∃d,iP keep (F (k+1) d++fr0) fr'∧j=S (k+1) d∧R=g (l.drop (k+1)) d) Q) (dV keep (F k b++fr0)) (S k b))
  (a: ∀b,decide ((l.length:Int)<(l.length:Int))=false→R=g [] b→bR P rd c (fp (fun _ _=>False) Q) (dV keep (F l.length b++fr0)) (S l.length b)):aX P rd (.trim keep c) Q fr s:=by
 refine aX.tr (fun b:Nat×β=>F b.1 b.2) (fun b=>S b.1 b.2) (fun m b=>m+b.1=l.length∧R=g (l.drop b.1) b.2) l.length (0,b) t h0 r ⟨rfl,q⟩ ?_;rintro m ⟨k,b⟩ ⟨hm,hi⟩;dsimp only at hm hi⊢;by_cases i:k<l.length
 ·have hg:l[k]?=some l[k]:=bV i;rw[js i]at hi;refine kG (h k b _ hg i (by simpa using i) (ck a8 a8) hi) fun e fr' j f=> ?_;cases e with
  |normal=>obtain⟨d,n,o,p⟩:=f;exact⟨m-1,(k+1,d),by omega,n,o,by dsimp only;omega,p⟩
  |_=>exact f
 ·obtain rfl:k=l.length:=by omega
  rw[sO]at hi;refine kG (a b (by simp) hi) fun e fr' j f=> ?_;cases e with
  |normal=>exact f.elim
  |_=>exact f
def aV(cs:List AV)(off m:Nat)(vs:List AV):Option (List AV):=if vs.length=m∧off+m≤cs.length then some (cs.take off++vs++cs.drop (off+m))else none
theorem UL(s:List aa)(id off m:Nat)(vs cs:List AV):putCells s id off m vs cs=(aV cs off m vs).map fun a=>(ux,s.set id (.cells a)):=by
 unfold putCells aV;split<;>rfl
theorem OV(fr:Fr)(cs:List AV)(off size:Nat)(x:X)(ps:List (Nat×Nat×X)):kS fr cs ((off,size,x)::ps)=((x.ev fr).bind AV.cells).bind fun vs=>(aV cs off size vs).bind fun a=>kS fr a ps:=by
 show(((x.ev fr).bind AV.cells).bind fun vs=>if vs.length=size∧off+size≤cs.length then kS fr (cs.take off++vs++cs.drop (off+size)) ps else none)=_;congr 1;funext vs;unfold aV;split<;>rfl
theorem gp{l:List AV}{n:Nat}{vs:List AV}(h:l.length=n)(a:vs.length=n):aV l 0 n vs=some vs:=by
 unfold aV;rw[if_pos ⟨a,by omega⟩,au,List.take_zero,bn,gy a8,bg]
theorem fQ{α:Type}{l A C:List α}{b:α}{o:Nat}(h:l=A++([b]++C))(a:A.length=o):l[o]?=some b:=by subst h;subst a;simp
theorem nx{α:Type}{l A B C:List α}{o m:Nat}(h:l=A++(B++C))(a:A.length=o)(b:B.length=m):(l.drop o).take m=B:=by subst h;subst a;subst b;simp
theorem DP{α:Type}{l A B C:List α}{m:Nat}(h:l=A++(B++C))(a:A.length=0)(b:B.length=m):l.take m=B:=by
 have:=nx h a b;simpa using this
theorem kC{α:Type}{l A B C:List α}{o m i:Nat}{b:α}{j:Nat}(h:l=A++(B++C))(a:A.length=o)(d:B.length=m)(c:j=o+i)(hb:B[i]?=some b):l[j]?=some b:=by
 subst h;subst a;subst c;have:=(aR.1 hb).1;rw[gZ a8,mR,eQ this];exact hb
theorem YA{α:Type}{l A B C E:List α}{o m i n j:Nat}(h:l=A++(B++C))(a:A.length=o)(c:B.length=m)(b:j=o+i∧i+n≤m)(hb:(B.drop i).take n=E):(l.drop j).take n=E:=by
 subst h;subst a;obtain⟨rfl,d⟩:=b;rw[gx,gy a8,bn,mR,gx,gf (by rw[ax];omega)];exact hb
theorem pb{α:Type}{l A B C E:List α}{o m n j:Nat}(h:l=A++(B++C))(a:A.length=o)(b:B.length=m)(c:j=o∧n≤m)(hb:B.take n=E):(l.drop j).take n=E:=
 YA (i:=0) h a b ⟨c.1,by omega⟩ (by simpa using hb)
theorem YB{α:Type}{l A B C E:List α}{m n:Nat}(h:l=A++(B++C))(a:A.length=0)(b:B.length=m)(c:n≤m)(hb:B.take n=E):l.take n=E:=by
 have:=pb (j:=0) h a b ⟨rfl,c⟩ hb;simpa using this
theorem bZ{l l' A B B' C:List D}{o m:Nat}(h:l=A++(B++C))(c:A.length=o)(e:B.length=m)(a:B'.length=m)(b:l'=A++(B'++C)):aV (l.map .d) o m (B'.map .d)=some (l'.map .d):=by
 subst h;subst b;subst c;unfold aV;rw[if_pos ⟨by simpa using a,by simp;omega⟩];simp only[eX];congr 1;rw[bj,gf (by simp),dm (by simp),←e];congr 1
 rw[gx,gy (by simp),bn,aL,mR,gx,gy (by simp),bn,aL,ia,jQ]
theorem OW(fr:Fr)(cs:List AV):kS fr cs []=some cs:=rfl
theorem Qh{α β:Type}(f:α→β)(l:List α)(n:Nat):(l.map f).drop n=(l.drop n).map f:=by rw[List.map_drop]
theorem Qk{α β:Type}(f:α→β)(l:List α)(n:Nat):(l.map f).take n=(l.take n).map f:=by rw[List.map_take]
theorem v7: ∀(ds:List D),kb (ds.map .d)=some ds
 |[]=>rfl
 |x::l=>by show(kb (l.map AV.d)).map (x:: ·)=_;rw[v7 l];rfl
theorem N4(ds:List D):aggA (ds.map .d)= .d (.agg ds):=by unfold aggA;rw[v7]
theorem LC(ds:List D):toLs (ds.map .d)=some ds:=D5 (v7 ds)
theorem tE(s:List aa)(f:Nat): ∀(ds:List D),cU (bu s (f+1)) (ds.map .d)=some ds
 |[]=>rfl
 |x::l=>by
  have h:=tE s f l;simp only[bO,cU,h,bu,AV.toL]
theorem Pd(ds:List D)(o i:Nat):(ds.drop o)[i]?=ds[o+i]? :=fB
theorem NQ{α:Type}(sz:Nat)(l:List α):chunk sz 1 l=[l.take sz]:=rfl
end Go.Bb
namespace Go.Proofs.Q
open Go Go.Bb Go.Proofs.Lg
open Go.Ab (D)
def Bytes(l:List Int):Prop:= ∀b∈l,0≤b∧b<256
structure Dg where
 l:List Int
 len:l.length=32
 by_:Bytes l
 deriving DecidableEq
theorem Dg.ext{a b:Dg}(h:a.l=b.l):a=b:=by
 cases a;cases b;cases h;rfl
def Dg.zero:Dg:=⟨List.replicate 32 0,by decide,by unfold Bytes;decide⟩
instance:Inhabited Dg:=⟨.zero⟩
def aq(d:Dg):List D:=d.l.map fun b=> .sc (.int .u8 b)
theorem bc(d:Dg):(aq d).length=32:=by simp[aq,d.len]
def eG(b:ByteArray):List D:=[.sc (.string b)]
theorem Xa(b:ByteArray):(eG b).length=1:=rfl
theorem qu(d:Dg):(aq d).take 32=aq d:=dm (by rw[bc];exact bh _)
theorem Km(x:Dg)(l:List D):(aq x++l).take 32=aq x:=by rw[gf (by rw[bc];exact bh _)];exact qu x
theorem Wz(x:Dg)(l:List D):(aq x++l).drop 32=l:=by rw[gx,gy (by rw[bc];exact bh _),bc];rfl
inductive Sx where
 |mk (isL:Bool) (atom:ByteArray) (l:List Sx)
mutual
def ae:Sx→List D
 | .mk b a l=>[.sc (.bool b),.sc (.string a),.sl 3 (w9 l)]
def w9:List Sx→List (List D)
 |[]=>[]
 |x::l=>ae x::w9 l
end
theorem Ky: ∀(l:List Sx),w9 l=l.map ae
 |[]=>by simp only[w9,eg]
 |x::l=>by simp only[w9,Ky l,bO]
theorem jj(b:Bool)(a:ByteArray)(l:List Sx):ae (.mk b a l)=[.sc (.bool b),.sc (.string a),.sl 3 (l.map ae)]:=by rw[ae,Ky]
def Sx.isL:Sx→Bool
 | .mk b _ _=>b
def Sx.atom:Sx→ByteArray
 | .mk _ a _=>a
def Sx.list:Sx→List Sx
 | .mk _ _ l=>l
def Sx.zero:Sx:= .mk false ⟨#[]⟩ []
theorem iV(x:Sx):ae x=[.sc (.bool x.isL),.sc (.string x.atom),.sl 3 (x.list.map ae)]:=by cases x;exact jj ..
theorem ch(x:Sx):(ae x).length=3:=by rw[iV];rfl
theorem Xb(x:Sx):(ae x).take 3=ae x:=by rw[iV];rfl
theorem Xq(x:Sx)(l:List D):(ae x++l).take 3=ae x:=by rw[iV];rfl
theorem Xc(x:Sx)(l:List D):(ae x++l).drop 3=l:=by rw[iV];rfl
theorem Xd(x:Sx):(ae x)[0]?=some (.sc (.bool x.isL)):=by rw[iV];rfl
theorem Xe(x:Sx):(ae x)[1]?=some (.sc (.string x.atom)):=by rw[iV];rfl
theorem Xf(x:Sx):(ae x)[2]?=some (.sl 3 (x.list.map ae)):=by rw[iV];rfl
theorem Xn(x:Sx)(v:Bool):aV ((ae x).map .d) 0 1 [.d (.sc (.bool v))]=some ((ae (.mk v x.atom x.list)).map .d):=by rw[iV,jj];rfl
theorem Xo(x:Sx)(v:ByteArray):aV ((ae x).map .d) 1 1 [.d (.sc (.string v))]=some ((ae (.mk x.isL v x.list)).map .d):=by rw[iV,jj];rfl
theorem qw(x:Sx)(v:List Sx):aV ((ae x).map .d) 2 1 [.d (.sl 3 (v.map ae))]=some ((ae (.mk x.isL x.atom v)).map .d):=by rw[iV,jj];rfl
theorem Xp(x:Sx)(l:List AV)(h:l.length=3):aV l 0 3 ((ae x).map .d)=some ((ae x).map .d):=gp h (by rw[aL,ch])
structure ar where
 p:Dg
 n:Int
 deriving DecidableEq
def ar.zero:ar:=⟨Dg.zero,0⟩
instance:Inhabited ar:=⟨.zero⟩
def ab(x:ar):List D:=aq x.p++([.sc (.int .i64 (x.n))])
theorem aM(x:ar):(ab x).length=33:=by simp only[ab,aN,aU,aY,bc]
theorem EB(x:ar):(ab x).take 33=ab x:=dm (by rw[aM];exact bh _)
theorem WE(x:ar)(l:List D):(ab x++l).take 33=ab x:=by rw[gf (by rw[aM];exact bh _)];exact EB x
theorem WB(x:ar)(l:List D):(ab x++l).drop 33=l:=by rw[gx,gy (by rw[aM];exact bh _),aM];rfl
theorem fS(x:ar)(l:List AV)(h:l.length=33):aV l 0 33 ((ab x).map .d)=some ((ab x).map .d):=gp h (by rw[aL,aM])
theorem EC(x:ar):ab x=([])++((aq x.p)++([.sc (.int .i64 (x.n))])):=by simp only[ab,bj,bg,bn]
theorem mF(x:ar):((ab x)).take 32=aq x.p:=DP (EC x) (by simp only[aN,aU,aY,bc]) (bc _)
theorem WC(x:ar)(v:Dg):aV ((ab x).map .d) 0 32 ((aq v).map .d)=some ((ab {x with p:=v}).map .d):=bZ (B':=aq v) (EC x) (by simp only[aN,aU,aY,bc]) (bc _) (bc _) (EC {x with p:=v})
theorem ED(x:ar):ab x=(aq x.p)++(([.sc (.int .i64 (x.n))])++([])):=by simp only[ab,bj,bg,bn]
theorem mG(x:ar):(ab x)[32]?=some (.sc (.int .i64 (x.n))):=fQ (ED x) (by simp only[aN,aU,aY,bc])
theorem WD(x:ar)(v:Int):aV ((ab x).map .d) 32 1 [.d (.sc (.int .i64 (v)))]=some ((ab {x with n:=v}).map .d):=bZ (B':=[.sc (.int .i64 (v))]) (ED x) (by simp only[aN,aU,aY,bc]) rfl rfl (ED {x with n:=v})
structure af where
 kind:Int
 file:ar
 type:Int
 parent:ar
 name:ByteArray
 mode:Int
 data:ByteArray
 after:ar
 before:ar
 lines:List ByteArray
 over:List ar
 deriving DecidableEq
def af.zero:af:=⟨0,ar.zero,0,ar.zero,⟨#[]⟩,0,⟨#[]⟩,ar.zero,ar.zero,[],[]⟩
instance:Inhabited af:=⟨.zero⟩
def aQ(x:af):List D:=[.sc (.int .i64 (x.kind))]++(ab x.file++([.sc (.int .i64 (x.type))]++(ab x.parent++([.sc (.string (x.name))]++([.sc (.int .i64 (x.mode))]++([.sc (.string (x.data))]++(ab x.after++(ab x.before++([.sl 1 ((x.lines).map eG)]++([.sl 33 ((x.over).map ab)]))))))))))
theorem dN(x:af):(aQ x).length=139:=by simp only[aQ,aN,aU,aY,aM]
theorem Ki(x:af):(aQ x).take 139=aQ x:=dm (by rw[dN];exact bh _)
theorem Wy(x:af)(l:List D):(aQ x++l).take 139=aQ x:=by rw[gf (by rw[dN];exact bh _)];exact Ki x
theorem W2(x:af)(l:List D):(aQ x++l).drop 139=l:=by rw[gx,gy (by rw[dN];exact bh _),dN];rfl
theorem Wv(x:af)(l:List AV)(h:l.length=139):aV l 0 139 ((aQ x).map .d)=some ((aQ x).map .d):=gp h (by rw[aL,dN])
theorem Eu(x:af):aQ x=([])++(([.sc (.int .i64 (x.kind))])++(ab x.file++([.sc (.int .i64 (x.type))]++(ab x.parent++([.sc (.string (x.name))]++([.sc (.int .i64 (x.mode))]++([.sc (.string (x.data))]++(ab x.after++(ab x.before++([.sl 1 ((x.lines).map eG)]++([.sl 33 ((x.over).map ab)]))))))))))):=by simp only[aQ,bj,bg,bn]
theorem W3(x:af):(aQ x)[0]?=some (.sc (.int .i64 (x.kind))):=fQ (Eu x) (by simp only[aN,aU,aY,aM])
theorem Wm(x:af)(v:Int):aV ((aQ x).map .d) 0 1 [.d (.sc (.int .i64 (v)))]=some ((aQ {x with kind:=v}).map .d):=bZ (B':=[.sc (.int .i64 (v))]) (Eu x) (by simp only[aN,aU,aY,aM]) rfl rfl (Eu {x with kind:=v})
theorem w5(x:af):aQ x=([.sc (.int .i64 (x.kind))])++((ab x.file)++([.sc (.int .i64 (x.type))]++(ab x.parent++([.sc (.string (x.name))]++([.sc (.int .i64 (x.mode))]++([.sc (.string (x.data))]++(ab x.after++(ab x.before++([.sl 1 ((x.lines).map eG)]++([.sl 33 ((x.over).map ab)])))))))))):=by simp only[aQ,bj,bg,bn]
theorem W4(x:af):((aQ x).drop 1).take 33=ab x.file:=nx (w5 x) (by simp only[aN,aU,aY,aM]) (aM _)
theorem Wn(x:af)(v:ar):aV ((aQ x).map .d) 1 33 ((ab v).map .d)=some ((aQ {x with file:=v}).map .d):=bZ (B':=ab v) (w5 x) (by simp only[aN,aU,aY,aM]) (aM _) (aM _) (w5 {x with file:=v})
theorem Wh(x:af):((aQ x).drop 1).take 32=aq x.file.p:=pb (o:=1) (w5 x) (by simp only[aN,aU,aY,aM]) (aM _) (by decide) (mF _)
theorem Wi(x:af):(aQ x)[33]?=some (.sc (.int .i64 (x.file.n))):=kC (o:=1) (i:=32) (w5 x) (by simp only[aN,aU,aY,aM]) (aM _) (by decide) (mG _)
theorem Ew(x:af):aQ x=([.sc (.int .i64 (x.kind))]++(ab x.file))++(([.sc (.int .i64 (x.type))])++(ab x.parent++([.sc (.string (x.name))]++([.sc (.int .i64 (x.mode))]++([.sc (.string (x.data))]++(ab x.after++(ab x.before++([.sl 1 ((x.lines).map eG)]++([.sl 33 ((x.over).map ab)]))))))))):=by simp only[aQ,bj,bg,bn]
theorem W6(x:af):(aQ x)[34]?=some (.sc (.int .i64 (x.type))):=fQ (Ew x) (by simp only[aN,aU,aY,aM])
theorem Wo(x:af)(v:Int):aV ((aQ x).map .d) 34 1 [.d (.sc (.int .i64 (v)))]=some ((aQ {x with type:=v}).map .d):=bZ (B':=[.sc (.int .i64 (v))]) (Ew x) (by simp only[aN,aU,aY,aM]) rfl rfl (Ew {x with type:=v})
theorem w6(x:af):aQ x=([.sc (.int .i64 (x.kind))]++(ab x.file++([.sc (.int .i64 (x.type))])))++((ab x.parent)++([.sc (.string (x.name))]++([.sc (.int .i64 (x.mode))]++([.sc (.string (x.data))]++(ab x.after++(ab x.before++([.sl 1 ((x.lines).map eG)]++([.sl 33 ((x.over).map ab)])))))))):=by simp only[aQ,bj,bg,bn]
theorem W7(x:af):((aQ x).drop 35).take 33=ab x.parent:=nx (w6 x) (by simp only[aN,aU,aY,aM]) (aM _)
theorem Wp(x:af)(v:ar):aV ((aQ x).map .d) 35 33 ((ab v).map .d)=some ((aQ {x with parent:=v}).map .d):=bZ (B':=ab v) (w6 x) (by simp only[aN,aU,aY,aM]) (aM _) (aM _) (w6 {x with parent:=v})
theorem Wj(x:af):((aQ x).drop 35).take 32=aq x.parent.p:=pb (o:=35) (w6 x) (by simp only[aN,aU,aY,aM]) (aM _) (by decide) (mF _)
theorem Wk(x:af):(aQ x)[67]?=some (.sc (.int .i64 (x.parent.n))):=kC (o:=35) (i:=32) (w6 x) (by simp only[aN,aU,aY,aM]) (aM _) (by decide) (mG _)
theorem Ex(x:af):aQ x=([.sc (.int .i64 (x.kind))]++(ab x.file++([.sc (.int .i64 (x.type))]++(ab x.parent))))++(([.sc (.string (x.name))])++([.sc (.int .i64 (x.mode))]++([.sc (.string (x.data))]++(ab x.after++(ab x.before++([.sl 1 ((x.lines).map eG)]++([.sl 33 ((x.over).map ab)]))))))):=by simp only[aQ,bj,bg,bn]
theorem W8(x:af):(aQ x)[68]?=some (.sc (.string (x.name))):=fQ (Ex x) (by simp only[aN,aU,aY,aM])
theorem Wq(x:af)(v:ByteArray):aV ((aQ x).map .d) 68 1 [.d (.sc (.string (v)))]=some ((aQ {x with name:=v}).map .d):=bZ (B':=[.sc (.string (v))]) (Ex x) (by simp only[aN,aU,aY,aM]) rfl rfl (Ex {x with name:=v})
theorem Ey(x:af):aQ x=([.sc (.int .i64 (x.kind))]++(ab x.file++([.sc (.int .i64 (x.type))]++(ab x.parent++([.sc (.string (x.name))])))))++(([.sc (.int .i64 (x.mode))])++([.sc (.string (x.data))]++(ab x.after++(ab x.before++([.sl 1 ((x.lines).map eG)]++([.sl 33 ((x.over).map ab)])))))):=by simp only[aQ,bj,bg,bn]
theorem W9(x:af):(aQ x)[69]?=some (.sc (.int .i64 (x.mode))):=fQ (Ey x) (by simp only[aN,aU,aY,aM])
theorem Wr(x:af)(v:Int):aV ((aQ x).map .d) 69 1 [.d (.sc (.int .i64 (v)))]=some ((aQ {x with mode:=v}).map .d):=bZ (B':=[.sc (.int .i64 (v))]) (Ey x) (by simp only[aN,aU,aY,aM]) rfl rfl (Ey {x with mode:=v})
theorem Ez(x:af):aQ x=([.sc (.int .i64 (x.kind))]++(ab x.file++([.sc (.int .i64 (x.type))]++(ab x.parent++([.sc (.string (x.name))]++([.sc (.int .i64 (x.mode))]))))))++(([.sc (.string (x.data))])++(ab x.after++(ab x.before++([.sl 1 ((x.lines).map eG)]++([.sl 33 ((x.over).map ab)]))))):=by simp only[aQ,bj,bg,bn]
theorem Wa(x:af):(aQ x)[70]?=some (.sc (.string (x.data))):=fQ (Ez x) (by simp only[aN,aU,aY,aM])
theorem Ws(x:af)(v:ByteArray):aV ((aQ x).map .d) 70 1 [.d (.sc (.string (v)))]=some ((aQ {x with data:=v}).map .d):=bZ (B':=[.sc (.string (v))]) (Ez x) (by simp only[aN,aU,aY,aM]) rfl rfl (Ez {x with data:=v})
theorem w7(x:af):aQ x=([.sc (.int .i64 (x.kind))]++(ab x.file++([.sc (.int .i64 (x.type))]++(ab x.parent++([.sc (.string (x.name))]++([.sc (.int .i64 (x.mode))]++([.sc (.string (x.data))])))))))++((ab x.after)++(ab x.before++([.sl 1 ((x.lines).map eG)]++([.sl 33 ((x.over).map ab)])))):=by simp only[aQ,bj,bg,bn]
theorem Wb(x:af):((aQ x).drop 71).take 33=ab x.after:=nx (w7 x) (by simp only[aN,aU,aY,aM]) (aM _)
theorem Wt(x:af)(v:ar):aV ((aQ x).map .d) 71 33 ((ab v).map .d)=some ((aQ {x with after:=v}).map .d):=bZ (B':=ab v) (w7 x) (by simp only[aN,aU,aY,aM]) (aM _) (aM _) (w7 {x with after:=v})
theorem Wl(x:af):((aQ x).drop 71).take 32=aq x.after.p:=pb (o:=71) (w7 x) (by simp only[aN,aU,aY,aM]) (aM _) (by decide) (mF _)
theorem We(x:af):(aQ x)[103]?=some (.sc (.int .i64 (x.after.n))):=kC (o:=71) (i:=32) (w7 x) (by simp only[aN,aU,aY,aM]) (aM _) (by decide) (mG _)
theorem w8(x:af):aQ x=([.sc (.int .i64 (x.kind))]++(ab x.file++([.sc (.int .i64 (x.type))]++(ab x.parent++([.sc (.string (x.name))]++([.sc (.int .i64 (x.mode))]++([.sc (.string (x.data))]++(ab x.after))))))))++((ab x.before)++([.sl 1 ((x.lines).map eG)]++([.sl 33 ((x.over).map ab)]))):=by simp only[aQ,bj,bg,bn]
theorem Wc(x:af):((aQ x).drop 104).take 33=ab x.before:=nx (w8 x) (by simp only[aN,aU,aY,aM]) (aM _)
theorem Wu(x:af)(v:ar):aV ((aQ x).map .d) 104 33 ((ab v).map .d)=some ((aQ {x with before:=v}).map .d):=bZ (B':=ab v) (w8 x) (by simp only[aN,aU,aY,aM]) (aM _) (aM _) (w8 {x with before:=v})
theorem Wf(x:af):((aQ x).drop 104).take 32=aq x.before.p:=pb (o:=104) (w8 x) (by simp only[aN,aU,aY,aM]) (aM _) (by decide) (mF _)
theorem Wg(x:af):(aQ x)[136]?=some (.sc (.int .i64 (x.before.n))):=kC (o:=104) (i:=32) (w8 x) (by simp only[aN,aU,aY,aM]) (aM _) (by decide) (mG _)
theorem EA(x:af):aQ x=([.sc (.int .i64 (x.kind))]++(ab x.file++([.sc (.int .i64 (x.type))]++(ab x.parent++([.sc (.string (x.name))]++([.sc (.int .i64 (x.mode))]++([.sc (.string (x.data))]++(ab x.after++(ab x.before)))))))))++(([.sl 1 ((x.lines).map eG)])++([.sl 33 ((x.over).map ab)])):=by simp only[aQ,bj,bg,bn]
theorem Wd(x:af):(aQ x)[137]?=some (.sl 1 ((x.lines).map eG)):=fQ (EA x) (by simp only[aN,aU,aY,aM])
theorem BI(x:af)(v:List ByteArray):aV ((aQ x).map .d) 137 1 [.d (.sl 1 ((v).map eG))]=some ((aQ {x with lines:=v}).map .d):=bZ (B':=[.sl 1 ((v).map eG)]) (EA x) (by simp only[aN,aU,aY,aM]) rfl rfl (EA {x with lines:=v})
theorem Wx(x:af):aV ((aQ x).map .d) 137 1 [.d (.sl 1 [])]=some ((aQ {x with lines:=[]}).map .d):=BI x []
theorem Ev(x:af):aQ x=([.sc (.int .i64 (x.kind))]++(ab x.file++([.sc (.int .i64 (x.type))]++(ab x.parent++([.sc (.string (x.name))]++([.sc (.int .i64 (x.mode))]++([.sc (.string (x.data))]++(ab x.after++(ab x.before++([.sl 1 ((x.lines).map eG)]))))))))))++(([.sl 33 ((x.over).map ab)])++([])):=by simp only[aQ,bj,bg,bn]
theorem W5(x:af):(aQ x)[138]?=some (.sl 33 ((x.over).map ab)):=fQ (Ev x) (by simp only[aN,aU,aY,aM])
theorem Kj(x:af)(v:List ar):aV ((aQ x).map .d) 138 1 [.d (.sl 33 ((v).map ab))]=some ((aQ {x with over:=v}).map .d):=bZ (B':=[.sl 33 ((v).map ab)]) (Ev x) (by simp only[aN,aU,aY,aM]) rfl rfl (Ev {x with over:=v})
theorem Ww(x:af):aV ((aQ x).map .d) 138 1 [.d (.sl 33 [])]=some ((aQ {x with over:=[]}).map .d):=Kj x []
structure b9 where
 author:ByteArray
 message:ByteArray
 time:Int
 deps:List Dg
 changes:List af
 deriving DecidableEq
def b9.zero:b9:=⟨⟨#[]⟩,⟨#[]⟩,0,[],[]⟩
instance:Inhabited b9:=⟨.zero⟩
def bk(x:b9):List D:=[.sc (.string (x.author))]++([.sc (.string (x.message))]++([.sc (.int .i64 (x.time))]++([.sl 32 ((x.deps).map aq)]++([.sl 139 ((x.changes).map aQ)]))))
theorem c9(x:b9):(bk x).length=5:=by simp only[bk,aN,aU,aY]
theorem Ko(x:b9):(bk x).take 5=bk x:=dm (by rw[c9];exact bh _)
theorem WX(x:b9)(l:List D):(bk x++l).take 5=bk x:=by rw[gf (by rw[c9];exact bh _)];exact Ko x
theorem WQ(x:b9)(l:List D):(bk x++l).drop 5=l:=by rw[gx,gy (by rw[c9];exact bh _),c9];rfl
theorem WU(x:b9)(l:List AV)(h:l.length=5):aV l 0 5 ((bk x).map .d)=some ((bk x).map .d):=gp h (by rw[aL,c9])
theorem EI(x:b9):bk x=([])++(([.sc (.string (x.author))])++([.sc (.string (x.message))]++([.sc (.int .i64 (x.time))]++([.sl 32 ((x.deps).map aq)]++([.sl 139 ((x.changes).map aQ)]))))):=by simp only[bk,bj,bg,bn]
theorem Kp(x:b9):(bk x)[0]?=some (.sc (.string (x.author))):=fQ (EI x) (by simp only[aN,aU,aY])
theorem WR(x:b9)(v:ByteArray):aV ((bk x).map .d) 0 1 [.d (.sc (.string (v)))]=some ((bk {x with author:=v}).map .d):=bZ (B':=[.sc (.string (v))]) (EI x) (by simp only[aN,aU,aY]) rfl rfl (EI {x with author:=v})
theorem EJ(x:b9):bk x=([.sc (.string (x.author))])++(([.sc (.string (x.message))])++([.sc (.int .i64 (x.time))]++([.sl 32 ((x.deps).map aq)]++([.sl 139 ((x.changes).map aQ)])))):=by simp only[bk,bj,bg,bn]
theorem Kq(x:b9):(bk x)[1]?=some (.sc (.string (x.message))):=fQ (EJ x) (by simp only[aN,aU,aY])
theorem WS(x:b9)(v:ByteArray):aV ((bk x).map .d) 1 1 [.d (.sc (.string (v)))]=some ((bk {x with message:=v}).map .d):=bZ (B':=[.sc (.string (v))]) (EJ x) (by simp only[aN,aU,aY]) rfl rfl (EJ {x with message:=v})
theorem EK(x:b9):bk x=([.sc (.string (x.author))]++([.sc (.string (x.message))]))++(([.sc (.int .i64 (x.time))])++([.sl 32 ((x.deps).map aq)]++([.sl 139 ((x.changes).map aQ)]))):=by simp only[bk,bj,bg,bn]
theorem Kr(x:b9):(bk x)[2]?=some (.sc (.int .i64 (x.time))):=fQ (EK x) (by simp only[aN,aU,aY])
theorem WT(x:b9)(v:Int):aV ((bk x).map .d) 2 1 [.d (.sc (.int .i64 (v)))]=some ((bk {x with time:=v}).map .d):=bZ (B':=[.sc (.int .i64 (v))]) (EK x) (by simp only[aN,aU,aY]) rfl rfl (EK {x with time:=v})
theorem EL(x:b9):bk x=([.sc (.string (x.author))]++([.sc (.string (x.message))]++([.sc (.int .i64 (x.time))])))++(([.sl 32 ((x.deps).map aq)])++([.sl 139 ((x.changes).map aQ)])):=by simp only[bk,bj,bg,bn]
theorem Ks(x:b9):(bk x)[3]?=some (.sl 32 ((x.deps).map aq)):=fQ (EL x) (by simp only[aN,aU,aY])
theorem Ku(x:b9)(v:List Dg):aV ((bk x).map .d) 3 1 [.d (.sl 32 ((v).map aq))]=some ((bk {x with deps:=v}).map .d):=bZ (B':=[.sl 32 ((v).map aq)]) (EL x) (by simp only[aN,aU,aY]) rfl rfl (EL {x with deps:=v})
theorem WV(x:b9):aV ((bk x).map .d) 3 1 [.d (.sl 32 [])]=some ((bk {x with deps:=[]}).map .d):=Ku x []
theorem EM(x:b9):bk x=([.sc (.string (x.author))]++([.sc (.string (x.message))]++([.sc (.int .i64 (x.time))]++([.sl 32 ((x.deps).map aq)]))))++(([.sl 139 ((x.changes).map aQ)])++([])):=by simp only[bk,bj,bg,bn]
theorem Kt(x:b9):(bk x)[4]?=some (.sl 139 ((x.changes).map aQ)):=fQ (EM x) (by simp only[aN,aU,aY])
theorem Kv(x:b9)(v:List af):aV ((bk x).map .d) 4 1 [.d (.sl 139 ((v).map aQ))]=some ((bk {x with changes:=v}).map .d):=bZ (B':=[.sl 139 ((v).map aQ)]) (EM x) (by simp only[aN,aU,aY]) rfl rfl (EM {x with changes:=v})
theorem WW(x:b9):aV ((bk x).map .d) 4 1 [.d (.sl 139 [])]=some ((bk {x with changes:=[]}).map .d):=Kv x []
structure bU where
 id:Dg
 pat:b9
 deriving DecidableEq
def bU.zero:bU:=⟨Dg.zero,b9.zero⟩
instance:Inhabited bU:=⟨.zero⟩
def b8(x:bU):List D:=aq x.id++(bk x.pat)
theorem iw(x:bU):(b8 x).length=37:=by simp only[b8,aN,aU,aY,bc,c9]
theorem Kx(x:bU):(b8 x).take 37=b8 x:=dm (by rw[iw];exact bh _)
theorem X9(x:bU)(l:List D):(b8 x++l).take 37=b8 x:=by rw[gf (by rw[iw];exact bh _)];exact Kx x
theorem WY(x:bU)(l:List D):(b8 x++l).drop 37=l:=by rw[gx,gy (by rw[iw];exact bh _),iw];rfl
theorem X8(x:bU)(l:List AV)(h:l.length=37):aV l 0 37 ((b8 x).map .d)=some ((b8 x).map .d):=gp h (by rw[aL,iw])
theorem EN(x:bU):b8 x=([])++((aq x.id)++(bk x.pat)):=by simp only[b8,bj,bg,bn]
theorem WZ(x:bU):((b8 x)).take 32=aq x.id:=DP (EN x) (by simp only[aN,aU,aY,bc,c9]) (bc _)
theorem X6(x:bU)(v:Dg):aV ((b8 x).map .d) 0 32 ((aq v).map .d)=some ((b8 {x with id:=v}).map .d):=bZ (B':=aq v) (EN x) (by simp only[aN,aU,aY,bc,c9]) (bc _) (bc _) (EN {x with id:=v})
theorem qv(x:bU):b8 x=(aq x.id)++((bk x.pat)++([])):=by simp only[b8,bj,bg,bn]
theorem X0(x:bU):((b8 x).drop 32).take 5=bk x.pat:=nx (qv x) (by simp only[aN,aU,aY,bc,c9]) (c9 _)
theorem X7(x:bU)(v:b9):aV ((b8 x).map .d) 32 5 ((bk v).map .d)=some ((b8 {x with pat:=v}).map .d):=bZ (B':=bk v) (qv x) (by simp only[aN,aU,aY,bc,c9]) (c9 _) (c9 _) (qv {x with pat:=v})
theorem X1(x:bU):(b8 x)[32]?=some (.sc (.string (x.pat.author))):=kC (o:=32) (i:=0) (qv x) (by simp only[aN,aU,aY,bc,c9]) (c9 _) (by decide) (Kp _)
theorem X2(x:bU):(b8 x)[33]?=some (.sc (.string (x.pat.message))):=kC (o:=32) (i:=1) (qv x) (by simp only[aN,aU,aY,bc,c9]) (c9 _) (by decide) (Kq _)
theorem X3(x:bU):(b8 x)[34]?=some (.sc (.int .i64 (x.pat.time))):=kC (o:=32) (i:=2) (qv x) (by simp only[aN,aU,aY,bc,c9]) (c9 _) (by decide) (Kr _)
theorem X4(x:bU):(b8 x)[35]?=some (.sl 32 ((x.pat.deps).map aq)):=kC (o:=32) (i:=3) (qv x) (by simp only[aN,aU,aY,bc,c9]) (c9 _) (by decide) (Ks _)
theorem X5(x:bU):(b8 x)[36]?=some (.sl 139 ((x.pat.changes).map aQ)):=kC (o:=32) (i:=4) (qv x) (by simp only[aN,aU,aY,bc,c9]) (c9 _) (by decide) (Kt _)
structure aJ where
 id:ar
 kind:Int
 file:ar
 type:Int
 parent:ar
 name:ByteArray
 mode:Int
 data:ByteArray
 text:ByteArray
 fro:ar
 til:ar
 over:List ar
 deriving DecidableEq
def aJ.zero:aJ:=⟨ar.zero,0,ar.zero,0,ar.zero,⟨#[]⟩,0,⟨#[]⟩,⟨#[]⟩,ar.zero,ar.zero,[]⟩
instance:Inhabited aJ:=⟨.zero⟩
def aO(x:aJ):List D:=ab x.id++([.sc (.int .i64 (x.kind))]++(ab x.file++([.sc (.int .i64 (x.type))]++(ab x.parent++([.sc (.string (x.name))]++([.sc (.int .i64 (x.mode))]++([.sc (.string (x.data))]++([.sc (.string (x.text))]++(ab x.fro++(ab x.til++([.sl 33 ((x.over).map ab)])))))))))))
theorem bJ(x:aJ):(aO x).length=172:=by simp only[aO,aN,aU,aY,aM]
theorem Kg(x:aJ):(aO x).take 172=aO x:=dm (by rw[bJ];exact bh _)
theorem VZ(x:aJ)(l:List D):(aO x++l).take 172=aO x:=by rw[gf (by rw[bJ];exact bh _)];exact Kg x
theorem Vq(x:aJ)(l:List D):(aO x++l).drop 172=l:=by rw[gx,gy (by rw[bJ];exact bh _),bJ];rfl
theorem jI(x:aJ)(l:List AV)(h:l.length=172):aV l 0 172 ((aO x).map .d)=some ((aO x).map .d):=gp h (by rw[aL,bJ])
theorem vS(x:aJ):aO x=([])++((ab x.id)++([.sc (.int .i64 (x.kind))]++(ab x.file++([.sc (.int .i64 (x.type))]++(ab x.parent++([.sc (.string (x.name))]++([.sc (.int .i64 (x.mode))]++([.sc (.string (x.data))]++([.sc (.string (x.text))]++(ab x.fro++(ab x.til++([.sl 33 ((x.over).map ab)])))))))))))):=by simp only[aO,bj,bg,bn]
theorem Vr(x:aJ):((aO x)).take 33=ab x.id:=DP (vS x) (by simp only[aN,aU,aY,aM]) (aM _)
theorem VN(x:aJ)(v:ar):aV ((aO x).map .d) 0 33 ((ab v).map .d)=some ((aO {x with id:=v}).map .d):=bZ (B':=ab v) (vS x) (by simp only[aN,aU,aY,aM]) (aM _) (aM _) (vS {x with id:=v})
theorem VD(x:aJ):(aO x).take 32=aq x.id.p:=YB (vS x) (by simp only[aN,aU,aY,aM]) (aM _) (by decide) (mF _)
theorem VJ(x:aJ):(aO x)[32]?=some (.sc (.int .i64 (x.id.n))):=kC (o:=0) (i:=32) (vS x) (by simp only[aN,aU,aY,aM]) (aM _) (by decide) (mG _)
theorem Em(x:aJ):aO x=(ab x.id)++(([.sc (.int .i64 (x.kind))])++(ab x.file++([.sc (.int .i64 (x.type))]++(ab x.parent++([.sc (.string (x.name))]++([.sc (.int .i64 (x.mode))]++([.sc (.string (x.data))]++([.sc (.string (x.text))]++(ab x.fro++(ab x.til++([.sl 33 ((x.over).map ab)]))))))))))):=by simp only[aO,bj,bg,bn]
theorem Vs(x:aJ):(aO x)[33]?=some (.sc (.int .i64 (x.kind))):=fQ (Em x) (by simp only[aN,aU,aY,aM])
theorem VO(x:aJ)(v:Int):aV ((aO x).map .d) 33 1 [.d (.sc (.int .i64 (v)))]=some ((aO {x with kind:=v}).map .d):=bZ (B':=[.sc (.int .i64 (v))]) (Em x) (by simp only[aN,aU,aY,aM]) rfl rfl (Em {x with kind:=v})
theorem vW(x:aJ):aO x=(ab x.id++([.sc (.int .i64 (x.kind))]))++((ab x.file)++([.sc (.int .i64 (x.type))]++(ab x.parent++([.sc (.string (x.name))]++([.sc (.int .i64 (x.mode))]++([.sc (.string (x.data))]++([.sc (.string (x.text))]++(ab x.fro++(ab x.til++([.sl 33 ((x.over).map ab)])))))))))):=by simp only[aO,bj,bg,bn]
theorem Vv(x:aJ):((aO x).drop 34).take 33=ab x.file:=nx (vW x) (by simp only[aN,aU,aY,aM]) (aM _)
theorem VQ(x:aJ)(v:ar):aV ((aO x).map .d) 34 33 ((ab v).map .d)=some ((aO {x with file:=v}).map .d):=bZ (B':=ab v) (vW x) (by simp only[aN,aU,aY,aM]) (aM _) (aM _) (vW {x with file:=v})
theorem VK(x:aJ):((aO x).drop 34).take 32=aq x.file.p:=pb (o:=34) (vW x) (by simp only[aN,aU,aY,aM]) (aM _) (by decide) (mF _)
theorem VL(x:aJ):(aO x)[66]?=some (.sc (.int .i64 (x.file.n))):=kC (o:=34) (i:=32) (vW x) (by simp only[aN,aU,aY,aM]) (aM _) (by decide) (mG _)
theorem Eo(x:aJ):aO x=(ab x.id++([.sc (.int .i64 (x.kind))]++(ab x.file)))++(([.sc (.int .i64 (x.type))])++(ab x.parent++([.sc (.string (x.name))]++([.sc (.int .i64 (x.mode))]++([.sc (.string (x.data))]++([.sc (.string (x.text))]++(ab x.fro++(ab x.til++([.sl 33 ((x.over).map ab)]))))))))):=by simp only[aO,bj,bg,bn]
theorem Vw(x:aJ):(aO x)[67]?=some (.sc (.int .i64 (x.type))):=fQ (Eo x) (by simp only[aN,aU,aY,aM])
theorem VR(x:aJ)(v:Int):aV ((aO x).map .d) 67 1 [.d (.sc (.int .i64 (v)))]=some ((aO {x with type:=v}).map .d):=bZ (B':=[.sc (.int .i64 (v))]) (Eo x) (by simp only[aN,aU,aY,aM]) rfl rfl (Eo {x with type:=v})
theorem vY(x:aJ):aO x=(ab x.id++([.sc (.int .i64 (x.kind))]++(ab x.file++([.sc (.int .i64 (x.type))]))))++((ab x.parent)++([.sc (.string (x.name))]++([.sc (.int .i64 (x.mode))]++([.sc (.string (x.data))]++([.sc (.string (x.text))]++(ab x.fro++(ab x.til++([.sl 33 ((x.over).map ab)])))))))):=by simp only[aO,bj,bg,bn]
theorem Vx(x:aJ):((aO x).drop 68).take 33=ab x.parent:=nx (vY x) (by simp only[aN,aU,aY,aM]) (aM _)
theorem VS(x:aJ)(v:ar):aV ((aO x).map .d) 68 33 ((ab v).map .d)=some ((aO {x with parent:=v}).map .d):=bZ (B':=ab v) (vY x) (by simp only[aN,aU,aY,aM]) (aM _) (aM _) (vY {x with parent:=v})
theorem VM(x:aJ):((aO x).drop 68).take 32=aq x.parent.p:=pb (o:=68) (vY x) (by simp only[aN,aU,aY,aM]) (aM _) (by decide) (mF _)
theorem VE(x:aJ):(aO x)[100]?=some (.sc (.int .i64 (x.parent.n))):=kC (o:=68) (i:=32) (vY x) (by simp only[aN,aU,aY,aM]) (aM _) (by decide) (mG _)
theorem Ep(x:aJ):aO x=(ab x.id++([.sc (.int .i64 (x.kind))]++(ab x.file++([.sc (.int .i64 (x.type))]++(ab x.parent)))))++(([.sc (.string (x.name))])++([.sc (.int .i64 (x.mode))]++([.sc (.string (x.data))]++([.sc (.string (x.text))]++(ab x.fro++(ab x.til++([.sl 33 ((x.over).map ab)]))))))):=by simp only[aO,bj,bg,bn]
theorem Vy(x:aJ):(aO x)[101]?=some (.sc (.string (x.name))):=fQ (Ep x) (by simp only[aN,aU,aY,aM])
theorem VT(x:aJ)(v:ByteArray):aV ((aO x).map .d) 101 1 [.d (.sc (.string (v)))]=some ((aO {x with name:=v}).map .d):=bZ (B':=[.sc (.string (v))]) (Ep x) (by simp only[aN,aU,aY,aM]) rfl rfl (Ep {x with name:=v})
theorem Er(x:aJ):aO x=(ab x.id++([.sc (.int .i64 (x.kind))]++(ab x.file++([.sc (.int .i64 (x.type))]++(ab x.parent++([.sc (.string (x.name))]))))))++(([.sc (.int .i64 (x.mode))])++([.sc (.string (x.data))]++([.sc (.string (x.text))]++(ab x.fro++(ab x.til++([.sl 33 ((x.over).map ab)])))))):=by simp only[aO,bj,bg,bn]
theorem Vz(x:aJ):(aO x)[102]?=some (.sc (.int .i64 (x.mode))):=fQ (Er x) (by simp only[aN,aU,aY,aM])
theorem VU(x:aJ)(v:Int):aV ((aO x).map .d) 102 1 [.d (.sc (.int .i64 (v)))]=some ((aO {x with mode:=v}).map .d):=bZ (B':=[.sc (.int .i64 (v))]) (Er x) (by simp only[aN,aU,aY,aM]) rfl rfl (Er {x with mode:=v})
theorem Es(x:aJ):aO x=(ab x.id++([.sc (.int .i64 (x.kind))]++(ab x.file++([.sc (.int .i64 (x.type))]++(ab x.parent++([.sc (.string (x.name))]++([.sc (.int .i64 (x.mode))])))))))++(([.sc (.string (x.data))])++([.sc (.string (x.text))]++(ab x.fro++(ab x.til++([.sl 33 ((x.over).map ab)]))))):=by simp only[aO,bj,bg,bn]
theorem VA(x:aJ):(aO x)[103]?=some (.sc (.string (x.data))):=fQ (Es x) (by simp only[aN,aU,aY,aM])
theorem VV(x:aJ)(v:ByteArray):aV ((aO x).map .d) 103 1 [.d (.sc (.string (v)))]=some ((aO {x with data:=v}).map .d):=bZ (B':=[.sc (.string (v))]) (Es x) (by simp only[aN,aU,aY,aM]) rfl rfl (Es {x with data:=v})
theorem Et(x:aJ):aO x=(ab x.id++([.sc (.int .i64 (x.kind))]++(ab x.file++([.sc (.int .i64 (x.type))]++(ab x.parent++([.sc (.string (x.name))]++([.sc (.int .i64 (x.mode))]++([.sc (.string (x.data))]))))))))++(([.sc (.string (x.text))])++(ab x.fro++(ab x.til++([.sl 33 ((x.over).map ab)])))):=by simp only[aO,bj,bg,bn]
theorem VB(x:aJ):(aO x)[104]?=some (.sc (.string (x.text))):=fQ (Et x) (by simp only[aN,aU,aY,aM])
theorem VW(x:aJ)(v:ByteArray):aV ((aO x).map .d) 104 1 [.d (.sc (.string (v)))]=some ((aO {x with text:=v}).map .d):=bZ (B':=[.sc (.string (v))]) (Et x) (by simp only[aN,aU,aY,aM]) rfl rfl (Et {x with text:=v})
theorem vZ(x:aJ):aO x=(ab x.id++([.sc (.int .i64 (x.kind))]++(ab x.file++([.sc (.int .i64 (x.type))]++(ab x.parent++([.sc (.string (x.name))]++([.sc (.int .i64 (x.mode))]++([.sc (.string (x.data))]++([.sc (.string (x.text))])))))))))++((ab x.fro)++(ab x.til++([.sl 33 ((x.over).map ab)]))):=by simp only[aO,bj,bg,bn]
theorem VC(x:aJ):((aO x).drop 105).take 33=ab x.fro:=nx (vZ x) (by simp only[aN,aU,aY,aM]) (aM _)
theorem VX(x:aJ)(v:ar):aV ((aO x).map .d) 105 33 ((ab v).map .d)=some ((aO {x with fro:=v}).map .d):=bZ (B':=ab v) (vZ x) (by simp only[aN,aU,aY,aM]) (aM _) (aM _) (vZ {x with fro:=v})
theorem VF(x:aJ):((aO x).drop 105).take 32=aq x.fro.p:=pb (o:=105) (vZ x) (by simp only[aN,aU,aY,aM]) (aM _) (by decide) (mF _)
theorem VG(x:aJ):(aO x)[137]?=some (.sc (.int .i64 (x.fro.n))):=kC (o:=105) (i:=32) (vZ x) (by simp only[aN,aU,aY,aM]) (aM _) (by decide) (mG _)
theorem vV(x:aJ):aO x=(ab x.id++([.sc (.int .i64 (x.kind))]++(ab x.file++([.sc (.int .i64 (x.type))]++(ab x.parent++([.sc (.string (x.name))]++([.sc (.int .i64 (x.mode))]++([.sc (.string (x.data))]++([.sc (.string (x.text))]++(ab x.fro))))))))))++((ab x.til)++([.sl 33 ((x.over).map ab)])):=by simp only[aO,bj,bg,bn]
theorem Vt(x:aJ):((aO x).drop 138).take 33=ab x.til:=nx (vV x) (by simp only[aN,aU,aY,aM]) (aM _)
theorem VP(x:aJ)(v:ar):aV ((aO x).map .d) 138 33 ((ab v).map .d)=some ((aO {x with til:=v}).map .d):=bZ (B':=ab v) (vV x) (by simp only[aN,aU,aY,aM]) (aM _) (aM _) (vV {x with til:=v})
theorem VH(x:aJ):((aO x).drop 138).take 32=aq x.til.p:=pb (o:=138) (vV x) (by simp only[aN,aU,aY,aM]) (aM _) (by decide) (mF _)
theorem VI(x:aJ):(aO x)[170]?=some (.sc (.int .i64 (x.til.n))):=kC (o:=138) (i:=32) (vV x) (by simp only[aN,aU,aY,aM]) (aM _) (by decide) (mG _)
theorem En(x:aJ):aO x=(ab x.id++([.sc (.int .i64 (x.kind))]++(ab x.file++([.sc (.int .i64 (x.type))]++(ab x.parent++([.sc (.string (x.name))]++([.sc (.int .i64 (x.mode))]++([.sc (.string (x.data))]++([.sc (.string (x.text))]++(ab x.fro++(ab x.til)))))))))))++(([.sl 33 ((x.over).map ab)])++([])):=by simp only[aO,bj,bg,bn]
theorem Vu(x:aJ):(aO x)[171]?=some (.sl 33 ((x.over).map ab)):=fQ (En x) (by simp only[aN,aU,aY,aM])
theorem Kh(x:aJ)(v:List ar):aV ((aO x).map .d) 171 1 [.d (.sl 33 ((v).map ab))]=some ((aO {x with over:=v}).map .d):=bZ (B':=[.sl 33 ((v).map ab)]) (En x) (by simp only[aN,aU,aY,aM]) rfl rfl (En {x with over:=v})
theorem VY(x:aJ):aV ((aO x).map .d) 171 1 [.d (.sl 33 [])]=some ((aO {x with over:=[]}).map .d):=Kh x []
structure Meta where
 author:ByteArray
 message:ByteArray
 time:Int
 deriving DecidableEq
def Meta.zero:Meta:=⟨⟨#[]⟩,⟨#[]⟩,0⟩
instance:Inhabited Meta:=⟨.zero⟩
def er(x:Meta):List D:=[.sc (.string (x.author))]++([.sc (.string (x.message))]++([.sc (.int .i64 (x.time))]))
theorem kq(x:Meta):(er x).length=3:=by simp only[er,aN,aU,aY]
theorem EE(x:Meta):(er x).take 3=er x:=dm (by rw[kq];exact bh _)
theorem WO(x:Meta)(l:List D):(er x++l).take 3=er x:=by rw[gf (by rw[kq];exact bh _)];exact EE x
theorem WG(x:Meta)(l:List D):(er x++l).drop 3=l:=by rw[gx,gy (by rw[kq];exact bh _),kq];rfl
theorem WN(x:Meta)(l:List AV)(h:l.length=3):aV l 0 3 ((er x).map .d)=some ((er x).map .d):=gp h (by rw[aL,kq])
theorem EF(x:Meta):er x=([])++(([.sc (.string (x.author))])++([.sc (.string (x.message))]++([.sc (.int .i64 (x.time))]))):=by simp only[er,bj,bg,bn]
theorem WH(x:Meta):(er x)[0]?=some (.sc (.string (x.author))):=fQ (EF x) (by simp only[aN,aU,aY])
theorem WK(x:Meta)(v:ByteArray):aV ((er x).map .d) 0 1 [.d (.sc (.string (v)))]=some ((er {x with author:=v}).map .d):=bZ (B':=[.sc (.string (v))]) (EF x) (by simp only[aN,aU,aY]) rfl rfl (EF {x with author:=v})
theorem EG(x:Meta):er x=([.sc (.string (x.author))])++(([.sc (.string (x.message))])++([.sc (.int .i64 (x.time))])):=by simp only[er,bj,bg,bn]
theorem WI(x:Meta):(er x)[1]?=some (.sc (.string (x.message))):=fQ (EG x) (by simp only[aN,aU,aY])
theorem WL(x:Meta)(v:ByteArray):aV ((er x).map .d) 1 1 [.d (.sc (.string (v)))]=some ((er {x with message:=v}).map .d):=bZ (B':=[.sc (.string (v))]) (EG x) (by simp only[aN,aU,aY]) rfl rfl (EG {x with message:=v})
theorem EH(x:Meta):er x=([.sc (.string (x.author))]++([.sc (.string (x.message))]))++(([.sc (.int .i64 (x.time))])++([])):=by simp only[er,bj,bg,bn]
theorem WJ(x:Meta):(er x)[2]?=some (.sc (.int .i64 (x.time))):=fQ (EH x) (by simp only[aN,aU,aY])
theorem WM(x:Meta)(v:Int):aV ((er x).map .d) 2 1 [.d (.sc (.int .i64 (v)))]=some ((er {x with time:=v}).map .d):=bZ (B':=[.sc (.int .i64 (v))]) (EH x) (by simp only[aN,aU,aY]) rfl rfl (EH {x with time:=v})
def dD:List SK:=List.replicate 32 .i
def dv:List SK:=List.replicate 33 .i
def cN:List AV:=(aq .zero).map .d
def dW:List AV:=(ab .zero).map .d
def nO:List AV:=(aQ .zero).map .d
def eu:List AV:=(aO .zero).map .d
def sJ:List AV:=(b8 .zero).map .d
def pf:List AV:=(nO.set 137 (.nil 1)).set 138 (.nil 33)
def gG:List AV:=eu.set 171 (.nil 33)
def lV:List AV:=(sJ.set 35 (.nil 32)).set 36 (.nil 139)
theorem fI{vs:List AV}(h:vs.length=139):aV pf 0 139 vs=some vs:=gp (by simp[pf,nO,dN]) h
theorem ef{vs:List AV}(h:vs.length=172):aV gG 0 172 vs=some vs:=gp (by simp[gG,eu,bJ]) h
theorem FF{vs:List AV}(h:vs.length=37):aV lV 0 37 vs=some vs:=gp (by simp[lV,sJ,iw]) h
set_option maxRecDepth 10000 in
theorem Zz:toLs pf=some (aQ .zero):=by rfl
set_option maxRecDepth 10000 in
theorem Zy:toLs gG=some (aO .zero):=by rfl
theorem ZG:toLs lV=some (b8 .zero):=by rfl
def cj(d:Dg):List Value:=d.l.map fun b=> .int .u8 b
def cJ(x:ar):List Value:=cj x.p++[.int .i64 x.n]
theorem F7: ∀(l:List Value),kZ ((l.map D.sc).map .d)=some l
 |[]=>rfl
 |v::l=>by show(kZ ((l.map D.sc).map AV.d)).map (v:: ·)=_;rw[F7 l];rfl
theorem BJ(d:Dg):aq d=(cj d).map .sc:=by unfold aq cj;rw[lk];rfl
theorem Kn(x:ar):ab x=(cJ x).map .sc:=by unfold ab cJ;rw[eX,BJ];rfl
theorem I3(d:Dg):AV.key true (.d (.agg (aq d)))=some (cj d):=by
 show(some ((aq d).map AV.d)).bind kZ=_;rw[BJ];exact F7 _
theorem I4(x:ar):AV.key true (.d (.agg (ab x)))=some (cJ x):=by
 show(some ((ab x).map AV.d)).bind kZ=_;rw[Kn];exact F7 _
theorem PM:AV.key true (.agg cN)=some (cj .zero):=I3 .zero
theorem PN:AV.key true (.agg dW)=some (cJ .zero):=I4 .zero
theorem Cc(d:Dg):(cj d).length=32:=by unfold cj;rw[aL,d.len]
theorem Z4(x:ar):(cJ x).length=33:=by unfold cJ;rw[aN,Cc];rfl
theorem Db(k:IntKind): ∀(a b:List Int) (ks:List SK) (us vs:List Value) (r:Bool),a.length=b.length→bw ks us vs=some r→bw (List.replicate a.length .i++ks) (a.map (Value.int k)++us) (b.map (Value.int k)++vs)=some (decide (a=b)&&r)
 |[],[],ks,us,vs,r,_,h=>by simpa using h
 |x::a,y::b,ks,us,vs,r,hl,h=>by
  have:=Db k a b ks us vs r (by simpa using hl) h;rw[aU,qQ];show(if k=k then(bw (List.replicate a.length .i++ks) (a.map (Value.int k)++us) (b.map (Value.int k)++vs)).map ((x==y)&& ·)else none)=_;rw[if_pos rfl,this];show some ((x==y)&&(decide (a=b)&&r))=_;congr 1;by_cases e:x=y
  ·subst e;simp
  ·simp[e]
 |[],_::_,_,_,_,_,hl,_=>by simp at hl
 |_::_,[],_,_,_,_,hl,_=>by simp at hl
theorem Dg.eq_l{a b:Dg}:decide (a.l=b.l)=decide (a=b):=by
 by_cases h:a=b
 ·subst h;simp
 ·rw[decide_eq_false h,decide_eq_false fun e=>h (Dg.ext e)]
theorem Hg(a b:Dg):bw dD (cj a) (cj b)=some (decide (a=b)):=by
 have h:=Db .u8 a.l b.l [] [] [] true (by rw[a.len,b.len]) rfl;rw[a.len,bg,bg,bg,Bool.and_true,Dg.eq_l]at h;exact h
theorem Hh(a b:ar):bw dv (cJ a) (cJ b)=some (decide (a=b)):=by
 have h:=Db .u8 a.p.l b.p.l [.i] [.int .i64 a.n] [.int .i64 b.n] (a.n==b.n) (by rw[a.p.len,b.p.len]) (by show(if IntKind.i64=IntKind.i64 then(some true).map ((a.n==b.n)&& ·)else none)=_;rw[if_pos rfl];simp);rw[a.p.len,Dg.eq_l]at h;refine h.trans ?_;congr 1;cases a;cases b;simp only[ar.mk.injEq];rw[nQ];simp
theorem PK:dD.length=32:=rfl
theorem PL:dv.length=33:=rfl
def ek:List AV:=[.d (.sc (.bool false)),.d (.sc (.string ⟨#[]⟩)),.nil 3]
theorem dE{vs:List AV}(h:vs.length=3):aV ek 0 3 vs=some vs:=gp rfl h
theorem ZX:toLs ek=some (ae .zero):=by rw[Sx.zero,jj];rfl
def bp(k:IntKind)(l:List Int):List D:=l.map fun n=> .sc (.int k n)
theorem dY(k:IntKind)(l:List Int):(bp k l).length=l.length:=by simp[bp]
theorem mH(k:IntKind)(l:List Int)(i:Nat):(bp k l)[i]?=(l[i]?).map fun n=> .sc (.int k n):=by unfold bp;rw[cC]
theorem lJ{k:IntKind}{l:List Int}{i:Nat}(h:i<l.length)(v:Int):aV ((bp k l).map .d) i 1 [.d (.sc (.int k v))]=some ((bp k (l.set i v)).map .d):=by
 unfold aV;rw[if_pos ⟨rfl,by simp[bp];omega⟩];congr 1;rw[Cv,if_pos h];simp[bp]
theorem kp{k:IntKind}{l:List Int}{n:Nat}{vs:List AV}(h:l.length=n)(a:vs.length=n):aV ((bp k l).map .d) 0 n vs=some vs:=gp (by simp[bp,h]) a
theorem WA(d:Dg):aq d=bp .u8 d.l:=rfl
def z64:List AV:=(bp .u32 (List.replicate 64 0)).map .d
def z8:List AV:=(bp .u32 (List.replicate 8 0)).map .d
def M5:List AV:=(ab .zero++(ab .zero)).map .d
theorem ZA(a0 a x:ar):aV ((ab a0++(ab a)).map .d) 0 33 ((ab x).map .d)=some ((ab x++(ab a)).map .d):=bZ (B:=ab a0) (B':=ab x) (A:=[]) (C:=(ab a)) (by simp only[bj,bg,bn]) (by simp only[aN,aY,aM]) (aM _) (aM _) (by simp only[bj,bg,bn])
theorem ZB(a0 a x:ar):aV ((ab a0++(ab a)).map .d) 33 33 ((ab x).map .d)=some ((ab a0++(ab x)).map .d):=bZ (B:=ab a) (B':=ab x) (A:=(ab a0)) (C:=[]) (by simp only[bj,bg,bn]) (by simp only[aN,aY,aM]) (aM _) (aM _) (by simp only[bj,bg,bn])
def M6:List AV:=(ab .zero++(ab .zero++(ab .zero++(ab .zero)))).map .d
theorem ZC(a0 a a2 a3 x:ar):aV ((ab a0++(ab a++(ab a2++(ab a3)))).map .d) 0 33 ((ab x).map .d)=some ((ab x++(ab a++(ab a2++(ab a3)))).map .d):=bZ (B:=ab a0) (B':=ab x) (A:=[]) (C:=(ab a++(ab a2++(ab a3)))) (by simp only[bj,bg,bn]) (by simp only[aN,aY,aM]) (aM _) (aM _) (by simp only[bj,bg,bn])
theorem ZD(a0 a a2 a3 x:ar):aV ((ab a0++(ab a++(ab a2++(ab a3)))).map .d) 33 33 ((ab x).map .d)=some ((ab a0++(ab x++(ab a2++(ab a3)))).map .d):=bZ (B:=ab a) (B':=ab x) (A:=(ab a0)) (C:=(ab a2++(ab a3))) (by simp only[bj,bg,bn]) (by simp only[aN,aY,aM]) (aM _) (aM _) (by simp only[bj,bg,bn])
theorem ZE(a0 a a2 a3 x:ar):aV ((ab a0++(ab a++(ab a2++(ab a3)))).map .d) 66 33 ((ab x).map .d)=some ((ab a0++(ab a++(ab x++(ab a3)))).map .d):=bZ (B:=ab a2) (B':=ab x) (A:=(ab a0++(ab a))) (C:=(ab a3)) (by simp only[bj,bg,bn]) (by simp only[aN,aY,aM]) (aM _) (aM _) (by simp only[bj,bg,bn])
theorem ZF(a0 a a2 a3 x:ar):aV ((ab a0++(ab a++(ab a2++(ab a3)))).map .d) 99 33 ((ab x).map .d)=some ((ab a0++(ab a++(ab a2++(ab x)))).map .d):=bZ (B:=ab a3) (B':=ab x) (A:=(ab a0++(ab a++(ab a2)))) (C:=[]) (by simp only[bj,bg,bn]) (by simp only[aN,aY,aM]) (aM _) (aM _) (by simp only[bj,bg,bn])
def fv:List AV:=(ae .zero).map .d
theorem ZH(a0 x:Sx):aV ((ae a0).map .d) 0 3 ((ae x).map .d)=some ((ae x).map .d):=bZ (B:=ae a0) (B':=ae x) (A:=[]) (C:=[]) (by simp only[bj,bg,bn]) (by simp only[aN,aY,ch]) (ch _) (ch _) (by simp only[bj,bg,bn])
def uz:List AV:=(ae .zero++(ae .zero)).map .d
theorem ZI(a0 a x:Sx):aV ((ae a0++(ae a)).map .d) 0 3 ((ae x).map .d)=some ((ae x++(ae a)).map .d):=bZ (B:=ae a0) (B':=ae x) (A:=[]) (C:=(ae a)) (by simp only[bj,bg,bn]) (by simp only[aN,aY,ch]) (ch _) (ch _) (by simp only[bj,bg,bn])
theorem ZJ(a0 a x:Sx):aV ((ae a0++(ae a)).map .d) 3 3 ((ae x).map .d)=some ((ae a0++(ae x)).map .d):=bZ (B:=ae a) (B':=ae x) (A:=(ae a0)) (C:=[]) (by simp only[bj,bg,bn]) (by simp only[aN,aY,ch]) (ch _) (ch _) (by simp only[bj,bg,bn])
def FG:List AV:=(ae .zero++(ae .zero++(ae .zero))).map .d
theorem ZK(a0 a a2 x:Sx):aV ((ae a0++(ae a++(ae a2))).map .d) 0 3 ((ae x).map .d)=some ((ae x++(ae a++(ae a2))).map .d):=bZ (B:=ae a0) (B':=ae x) (A:=[]) (C:=(ae a++(ae a2))) (by simp only[bj,bg,bn]) (by simp only[aN,aY,ch]) (ch _) (ch _) (by simp only[bj,bg,bn])
theorem ZL(a0 a a2 x:Sx):aV ((ae a0++(ae a++(ae a2))).map .d) 3 3 ((ae x).map .d)=some ((ae a0++(ae x++(ae a2))).map .d):=bZ (B:=ae a) (B':=ae x) (A:=(ae a0)) (C:=(ae a2)) (by simp only[bj,bg,bn]) (by simp only[aN,aY,ch]) (ch _) (ch _) (by simp only[bj,bg,bn])
theorem ZM(a0 a a2 x:Sx):aV ((ae a0++(ae a++(ae a2))).map .d) 6 3 ((ae x).map .d)=some ((ae a0++(ae a++(ae x))).map .d):=bZ (B:=ae a2) (B':=ae x) (A:=(ae a0++(ae a))) (C:=[]) (by simp only[bj,bg,bn]) (by simp only[aN,aY,ch]) (ch _) (ch _) (by simp only[bj,bg,bn])
def Cl:List AV:=(ae .zero++(ae .zero++(ae .zero++(ae .zero)))).map .d
theorem ZN(a0 a a2 a3 x:Sx):aV ((ae a0++(ae a++(ae a2++(ae a3)))).map .d) 0 3 ((ae x).map .d)=some ((ae x++(ae a++(ae a2++(ae a3)))).map .d):=bZ (B:=ae a0) (B':=ae x) (A:=[]) (C:=(ae a++(ae a2++(ae a3)))) (by simp only[bj,bg,bn]) (by simp only[aN,aY,ch]) (ch _) (ch _) (by simp only[bj,bg,bn])
theorem ZO(a0 a a2 a3 x:Sx):aV ((ae a0++(ae a++(ae a2++(ae a3)))).map .d) 3 3 ((ae x).map .d)=some ((ae a0++(ae x++(ae a2++(ae a3)))).map .d):=bZ (B:=ae a) (B':=ae x) (A:=(ae a0)) (C:=(ae a2++(ae a3))) (by simp only[bj,bg,bn]) (by simp only[aN,aY,ch]) (ch _) (ch _) (by simp only[bj,bg,bn])
theorem ZP(a0 a a2 a3 x:Sx):aV ((ae a0++(ae a++(ae a2++(ae a3)))).map .d) 6 3 ((ae x).map .d)=some ((ae a0++(ae a++(ae x++(ae a3)))).map .d):=bZ (B:=ae a2) (B':=ae x) (A:=(ae a0++(ae a))) (C:=(ae a3)) (by simp only[bj,bg,bn]) (by simp only[aN,aY,ch]) (ch _) (ch _) (by simp only[bj,bg,bn])
theorem ZQ(a0 a a2 a3 x:Sx):aV ((ae a0++(ae a++(ae a2++(ae a3)))).map .d) 9 3 ((ae x).map .d)=some ((ae a0++(ae a++(ae a2++(ae x)))).map .d):=bZ (B:=ae a3) (B':=ae x) (A:=(ae a0++(ae a++(ae a2)))) (C:=[]) (by simp only[bj,bg,bn]) (by simp only[aN,aY,ch]) (ch _) (ch _) (by simp only[bj,bg,bn])
def FH:List AV:=(ae .zero++(ae .zero++(ae .zero++(ae .zero++(ae .zero++(ae .zero)))))).map .d
theorem ZR(a0 a a2 a3 a4 a5 x:Sx):aV ((ae a0++(ae a++(ae a2++(ae a3++(ae a4++(ae a5)))))).map .d) 0 3 ((ae x).map .d)=some ((ae x++(ae a++(ae a2++(ae a3++(ae a4++(ae a5)))))).map .d):=bZ (B:=ae a0) (B':=ae x) (A:=[]) (C:=(ae a++(ae a2++(ae a3++(ae a4++(ae a5)))))) (by simp only[bj,bg,bn]) (by simp only[aN,aY,ch]) (ch _) (ch _) (by simp only[bj,bg,bn])
theorem ZS(a0 a a2 a3 a4 a5 x:Sx):aV ((ae a0++(ae a++(ae a2++(ae a3++(ae a4++(ae a5)))))).map .d) 3 3 ((ae x).map .d)=some ((ae a0++(ae x++(ae a2++(ae a3++(ae a4++(ae a5)))))).map .d):=bZ (B:=ae a) (B':=ae x) (A:=(ae a0)) (C:=(ae a2++(ae a3++(ae a4++(ae a5))))) (by simp only[bj,bg,bn]) (by simp only[aN,aY,ch]) (ch _) (ch _) (by simp only[bj,bg,bn])
theorem ZT(a0 a a2 a3 a4 a5 x:Sx):aV ((ae a0++(ae a++(ae a2++(ae a3++(ae a4++(ae a5)))))).map .d) 6 3 ((ae x).map .d)=some ((ae a0++(ae a++(ae x++(ae a3++(ae a4++(ae a5)))))).map .d):=bZ (B:=ae a2) (B':=ae x) (A:=(ae a0++(ae a))) (C:=(ae a3++(ae a4++(ae a5)))) (by simp only[bj,bg,bn]) (by simp only[aN,aY,ch]) (ch _) (ch _) (by simp only[bj,bg,bn])
theorem ZU(a0 a a2 a3 a4 a5 x:Sx):aV ((ae a0++(ae a++(ae a2++(ae a3++(ae a4++(ae a5)))))).map .d) 9 3 ((ae x).map .d)=some ((ae a0++(ae a++(ae a2++(ae x++(ae a4++(ae a5)))))).map .d):=bZ (B:=ae a3) (B':=ae x) (A:=(ae a0++(ae a++(ae a2)))) (C:=(ae a4++(ae a5))) (by simp only[bj,bg,bn]) (by simp only[aN,aY,ch]) (ch _) (ch _) (by simp only[bj,bg,bn])
theorem ZV(a0 a a2 a3 a4 a5 x:Sx):aV ((ae a0++(ae a++(ae a2++(ae a3++(ae a4++(ae a5)))))).map .d) 12 3 ((ae x).map .d)=some ((ae a0++(ae a++(ae a2++(ae a3++(ae x++(ae a5)))))).map .d):=bZ (B:=ae a4) (B':=ae x) (A:=(ae a0++(ae a++(ae a2++(ae a3))))) (C:=(ae a5)) (by simp only[bj,bg,bn]) (by simp only[aN,aY,ch]) (ch _) (ch _) (by simp only[bj,bg,bn])
theorem ZW(a0 a a2 a3 a4 a5 x:Sx):aV ((ae a0++(ae a++(ae a2++(ae a3++(ae a4++(ae a5)))))).map .d) 15 3 ((ae x).map .d)=some ((ae a0++(ae a++(ae a2++(ae a3++(ae a4++(ae x)))))).map .d):=bZ (B:=ae a5) (B':=ae x) (A:=(ae a0++(ae a++(ae a2++(ae a3++(ae a4)))))) (C:=[]) (by simp only[bj,bg,bn]) (by simp only[aN,aY,ch]) (ch _) (ch _) (by simp only[bj,bg,bn])
theorem Xg(x:Sx):aV ((ae x).map .d) 2 1 [.d (.sl 3 [])]=some ((ae (.mk x.isL x.atom [])).map .d):=qw x []
theorem Xh(x a0:Sx):aV ((ae x).map .d) 2 1 [.d (.sl 3 [ae a0])]=some ((ae (.mk x.isL x.atom [a0])).map .d):=qw x [a0]
theorem Xi(x a0 a:Sx):aV ((ae x).map .d) 2 1 [.d (.sl 3 [ae a0,ae a])]=some ((ae (.mk x.isL x.atom [a0,a])).map .d):=qw x [a0,a]
theorem Xj(x a0 a a2:Sx):aV ((ae x).map .d) 2 1 [.d (.sl 3 [ae a0,ae a,ae a2])]=some ((ae (.mk x.isL x.atom [a0,a,a2])).map .d):=qw x [a0,a,a2]
theorem Xk(x a0 a a2 a3:Sx):aV ((ae x).map .d) 2 1 [.d (.sl 3 [ae a0,ae a,ae a2,ae a3])]=some ((ae (.mk x.isL x.atom [a0,a,a2,a3])).map .d):=qw x [a0,a,a2,a3]
theorem Xl(x a0 a a2 a3 a4:Sx):aV ((ae x).map .d) 2 1 [.d (.sl 3 [ae a0,ae a,ae a2,ae a3,ae a4])]=some ((ae (.mk x.isL x.atom [a0,a,a2,a3,a4])).map .d):=qw x [a0,a,a2,a3,a4]
theorem Xm(x a0 a a2 a3 a4 a5:Sx):aV ((ae x).map .d) 2 1 [.d (.sl 3 [ae a0,ae a,ae a2,ae a3,ae a4,ae a5])]=some ((ae (.mk x.isL x.atom [a0,a,a2,a3,a4,a5])).map .d):=qw x [a0,a,a2,a3,a4,a5]
end Go.Proofs.Q
