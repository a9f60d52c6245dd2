/- Lemmas. -/
import Derived.Test.YtikhfhjohjfamaaGreatDoorPAB
import Derived.Laws.Tables
set_option linter.unusedVariables false
set_option linter.unusedSimpArgs false
set_option maxRecDepth 100000
namespace Go.Bb
open Go Go.RowKit Go.Ab
def kW(P:Program)(t:TypeId):Option (Option Nat):=
 match P.underlying t,P.info? t with
 |some d,some i=>some (if d.isRow then some i.size else none)
 |_,_=>none
theorem Gj{P:Program}{t:TypeId}{n:Option Nat}(h:kW P t=some n): ∃d i,P.underlying t=some d/\P.info? t=some i/\n=(if d.isRow then some i.size else none):=by
 unfold kW at h;split at h
 .rename_i d i a hi;exact⟨d,i,a,hi,(aJ h).symm⟩
 .cases h
def yJ(P:Program):Nat->TypeId->List TypeId
 |0,_=>[]
 |d+1,t=>match P.underlying t with
  |some (.struct fs)=>fs.toList.flatMap λf=>yJ P d f.type
  |some (.array n e)=>(List.range n).flatMap λ_=>yJ P d e
  |_=>[t]
def cL(P:Program)(t:TypeId)(v:Value):AV:=
 match v with
 | .slice none 0 0=>match P.underlying t with
  |some (.slice e)=> .nil (P.cellsOf e)
  |_=> .nil 0
 |_=> .d (.sc v)
def pP(P:Program)(L:List TypeId):List TypeId->List Value->List AV
 |_,[]=>[]
 |t::ts,u::us=>cL P t u::pP P L ts us
 |[],u::us=>cL P (L.headD 0) u::pP P L L.tail us
theorem AF{P:Program}{L:List TypeId}: ∀{us:List Value} {ts:List TypeId} {i:Nat} {d:AV},(pP P L ts us)[i]?=some d-> ∃u t,us[i]?=some u/\d=cL P t u
 |[],ts,i,d,h=>by simp[pP]at h
 |u::us,t::ts,0,d,h=>⟨u,t,rfl,(aJ h).symm⟩
 |u::us,[],0,d,h=>⟨u,_,rfl,(aJ h).symm⟩
 |u::us,t::ts,i+1,d,h=>AF (us:=us) (ts:=ts) (i:=i) h
 |u::us,[],i+1,d,h=>AF (us:=us) (ts:=L.tail) (i:=i) h
theorem AG{P:Program}{L:List TypeId}: ∀(us:List Value) (ts:List TypeId),(pP P L ts us).length=us.length
 |[],ts=>by simp[pP]
 |u::us,t::ts=>by simp[pP,AG us]
 |u::us,[]=>by simp[pP,AG us]
def cA(P:Program)(t:TypeId)(v:Value):Option AV:=
 match v with
 | .agg cs=>if cs.all (·.oneCell')then some (.agg (pP P [] (yJ P 12 t) cs.toList))else none
 |_=>some (cL P t v)
def cX(P:Program)(t:TypeId):Operand->Option X
 | .tmp n=>some (.t n)
 | .const v=>(cA P t v).map .c
 | .func f=>some (.c (.clo f [] []))
 |_=>none
def kJ(P:Program)(t:TypeId):Option Operand->Option (Option X)
 |none=>some none
 |some p=>(cX P t p).map some
def je(P:Program):List TypeId->List Operand->Option (List X)
 |_,[]=>some []
 |ts,p::l=>match cX P (ts.headD 0) p,je P ts.tail l with
  |some x,some xs=>some (x::xs)
  |_,_=>none
theorem AE(P:Program)(t:TypeId)(u:Value)(k:aP)(w:World):RA k w u (cL P t u):=by
 unfold cL;split
 .split<;>exact .nil
 .exact .d (RD.sc _)
theorem AA{P:Program}{t:TypeId}{v:Value}{x:AV}(h:cA P t v=some x)(k:aP)(w:World):RA k w v x:=by
 unfold cA at h;split at h
 .rename_i cs;split at h
  .rename_i hc;obtain rfl:=aJ h;have a:cs=cs.toList.toArray:=by simp
   rw[a];refine .agg (us:=cs.toList) (by simp[AG]) (λu b=> ?_) (λi u d b e=> ?_)
   .exact rW.1 hc u (by simpa using b)
   .obtain⟨v,f,c,rfl⟩:=AF e;rw[b]at c;obtain rfl:=aJ c;exact AE ..
  .cases h
 .obtain rfl:=aJ h;exact AE P t v k w
theorem DG{P:Program}{t:TypeId}{p:Operand}{x:X}(h:cX P t p=some x){k:aP}{w:World}{a:Act}{fr:Fr}{d:AV}(b:x.ev fr=some d)
  (c: ∀u y,p= .tmp u->look fr u=some y->RA k w (a.tmps.getD u undef) y):RA k w (a.eval p) d:=by
 cases p with
 |tmp n=>
  simp[cX]at h;subst h;exact c n d rfl b
 |const v=>
  unfold cX at h;obtain⟨y,e,rfl⟩:=dy.1 h;obtain rfl:=aJ b;exact AA e k w
 |global g=>simp[cX]at h
 |func f=>
  simp[cX]at h;subst h;obtain rfl:=aJ b;exact .clo (us:=[]) (vs:=[]) rfl rfl (by simp) (by simp)
def sr(P:Program)(a:Nat->Option (Nat×Nat))(b:Nat->TypeId):List (Nat×Operand)->Option (List (Nat×Nat×X))
 |[]=>some []
 |(i,p)::l=>match a i,cX P (b i) p,sr P a b l with
  |some (off,size),some x,some l'=>some ((off,size,x)::l')
  |_,_,_=>none
def pz(P:Program)(t:TypeId)(us:List Value):List AV:=pP P (yJ P 12 t) (yJ P 12 t) us
def zU(fz:Bool)(l:List AV):List AV:=if fz then l.map datA else l
def vV(P:Program)(fz:Bool)(t:TypeId)(a:List (Nat×Operand)):Option CI:=
 match P.info? t,P.underlying t with
 |some it,some (.struct fs)=>match it.zero,fs.toList.mapM (λf=>(P.info? f.type).map λi=>(f.offset,i.size))with
  |some z,some places=>if z.cells.all (·.oneCell')then(sr P (places.toArray[·]?) (λi=>((fs[i]?).map (·.type)).getD 0) a).map (.bld (zU fz (pz P t z.cells.toList)))else none
  |_,_=>none
 |some it,some (.array _ e)=>match it.zero,P.info? e with
  |some z,some ie=>if z.cells.all (·.oneCell')then(sr P (λi=>some (i*ie.size,ie.size)) (λ_=>e) a).map (.bld (zU fz (pz P t z.cells.toList)))else none
  |_,_=>none
 |_,_=>none
def jE(z:Array Value)(n:Nat):Array Value:=(Array.range n).map (z[· % z.size]!)
def A0(z:Array Value)(n:Nat):List Value:=(List.replicate n z.toList).flatten
theorem a0A{z:Array Value}(n:Nat):(jE z (n*z.size)).toList=A0 z n:=by
 unfold A0;rw[show(jE z (n*z.size)).toList=(List.range (n*z.size)).map λi=>z[i % z.size]! by simp[jE]]
 induction n with
 |zero=>simp
 |succ n a=>
  rw[fQ,qP,Nat.add_comm,List.range_add,fF,ll,s8,gG,<-a];congr 1
  .refine gW λi=> ?_;by_cases hi:i<z.size
   .simp[hi,xK hi]
   .simp[hi]
  .refine vt λi _=> ?_;simp
def ye(P:Program)(fz mu:Bool)(t:TypeId)(n:Nat)(b:List (Nat×Operand)):Option CI:=
 match P.underlying t with
 |some (
    .slice e)=>match P.info? e with
  |some a=>match a.zero with
   |some z=>if 0<a.size/\n*a.size<=2^24/\z.cells.size=a.size/\z.cells.all (·.oneCell')=true then
    (sr P (λi=>some (i*a.size,a.size)) (λ_=>e) b).map λc=>if fz then .bsf a.size n ((pz P e (A0 z.cells n)).map datA) c else .bsl mu e a.size n (pz P e (A0 z.cells n)) c else none
   |none=>none
  |none=>none
 |_=>none
def QN(a:List Nat)(o:Oper):Bool:=(o.dst.map λd=>a.contains (d+300000)).getD false
def frozen(a:List Nat)(o:Oper):Bool:=(o.dst.map λd=>a.contains (d+100000)).getD false
def BN(a:List Nat)(o:Oper):Bool:=(o.dst.map a.contains).getD false
def yd(P:Program)(mu:Bool)(t:TypeId)(l c:Operand):Option CI:=
 match P.underlying t,cX P 0 l,cX P 0 c with
 |some (.slice e),some l,some c=>match P.info? e with
  |some a=>match a.zero with
   |some z=>if a.size=1/\z.oneCell'=true/\0<a.bytes then some (.mks mu e a.bytes (cL P e z) l c)else none
   |none=>none
  |none=>none
 |_,_,_=>none
def Bd:BinOp->Option Bool
 | .eql=>some false
 | .neq=>some true
 |_=>none
def dv(P:Program)(t:TypeId):Bool:=match P.underlying t with
 |some (.struct _)=>true
 |some (.array _ _)=>true
 |_=>false
def Be(P:Program)(a:BinOp)(t:TypeId):Option (Bool×List SK×Bool):=
 match Bd a,P.underlying t with
 |some neg,some (.struct _)=>if P.eqGuardType P.depth t=false then(dU P 12 t).map λks=>(true,ks,neg)else none
 |some neg,some (.array _ _)=>if P.eqGuardType P.depth t=false then(dU P 12 t).map λks=>(true,ks,neg)else none
 |some neg,some .bool=>(dU P 12 t).map λks=>(false,ks,neg)
 |_,_=>none
def ER(P:Program)(a:BinOp)(t:TypeId)(y:Operand):Option Bool:=match P.underlying t,y with
 |some (.slice _),.const (.slice none 0 0)=>match a with
  | .eql=>some false
  | .neq=>some true
  |_=>none
 |_,_=>none
def AQ(P:Program)(b:BinOp)(t:TypeId)(x y:Operand):Option CI:=
 match ER P b t y with
 |some a=>match cX P t x with
  |some x=>some (.isn a x)
  |none=>none
 |none=>match cX P t x,cX P t y with
 |some x,some y=>match Be P b t with
  |some (ag,ks,a)=>some (.eqa ag ks a x y)
  |none=>some (.bin b x y)
 |_,_=>none
def AX(P:Program):List Operand->List TypeId->Option CI
 |[x],[t]=>match P.underlying t,cX P t x with
  |some (.slice _),some x=>some (.len 0 x)
  |some .string,some x=>some (.len 1 x)
  |some (.map _ _),some x=>some (.len 2 x)
  |_,_=>none
 |_,_=>none
def AP(P:Program)(mu:Bool):List Operand->List TypeId->Option CI
 |[x,y],[t,t']=>match P.underlying t,cX P t x,cX P t y with
  |some (.slice e),some x,some y=>match P.info? e with
   |some j=>match j.zero with
    |some z=>if t=t'/\z.cells.size=j.size/\0<j.size then some (.app mu e j.size j.bytes x y)else none
    |none=>none
   |none=>none
  |_,_,_=>none
 |_,_=>none
def sA(P:Program)(mx:Bool):List Operand->List TypeId->Option CI
 |[x,y],[t,t']=>match cX P t x,cX P t' y with
  |some x,some y=>some (.mm mx x y)
  |_,_=>none
 |_,_=>none
def AS(P:Program):List Operand->List TypeId->Option CI
 |[p],[t]=>match P.underlying t,cX P t p with
  |some (.slice e),some x=>match P.info? e with
   |some i=>match i.zero with
    |some z=>if z.cells.all (·.oneCell')/\z.cells.size=i.size then some (.clr i.size (pz P e z.cells.toList) x)else none
    |none=>none
   |none=>none
  |_,_=>none
 |_,_=>none
def AR(P:Program)(mu:Bool)(c:Call):Option CI:=
 match c.callee with
 | .builtin .len=>AX P c.args.toList c.argTypes.toList
 | .builtin .append=>AP P mu c.args.toList c.argTypes.toList
 | .builtin .clear=>AS P c.args.toList c.argTypes.toList
 | .builtin .max=>sA P true c.args.toList c.argTypes.toList
 | .builtin .min=>sA P false c.args.toList c.argTypes.toList
 | .value (.func f)=>(je P c.argTypes.toList c.args.toList).map λxs=> .call (.fn f) xs
 | .value p=>match cX P 0 p,je P c.argTypes.toList c.args.toList with
  |some x,some xs=>some (.call (.val x) xs)
  |_,_=>none
 |_=>none
def isZero:Operand->Bool
 | .const (.int .i64 0)=>true
 |_=>false
def yf(P:Program)(t:TypeId)(x:Operand)(lo hi mx:Option Operand):Option CI:=
 match P.underlying t,cX P 0 x,kJ P 0 lo,kJ P 0 hi with
 |some (.slice e),some x,some lo',some hi'=>match P.info? e,mx with
  |some j,none=>some (.slc j.size x lo' hi')
  |some j,some m=>if isZero m&&hi.any isZero&&lo.all isZero then some (.slz j.size x)else none
  |_,_=>none
 |some (.pointer arr),some x,some lo',some hi'=>match P.underlying arr,mx with
  |some (.array n e),none=>match P.info? e with
   |some j=>if n<=9223372036854775807 then some (.sla n j.size x lo' hi')else none
   |none=>none
  |_,_=>none
 |some (.array n e),some x,some lo',some hi'=>match P.info? e,mx with
  |some j,none=>if n<=9223372036854775807 then some (.sla n j.size x lo' hi')else none
  |_,_=>none
 |some .string,some x,some lo',some hi'=>if mx.isNone then some (.sls x lo' hi')else none
 |_,_,_,_=>none
def AU(P:Program)(t:TypeId)(x i:Operand):Option CI:=
 match P.underlying t,cX P t x,cX P 0 i with
 |some (.array n e),some x,some i=>match kW P e,P.info? e with
  |some m,some j=>some (.idx n j.size m x i)
  |_,_=>none
 |some .string,some x,some i=>some (.six x i)
 |_,_,_=>none
def yc(P:Program)(mu:Bool)(a dst:TypeId)(x:Operand):Option CI:=
 match P.underlying a,P.underlying dst,cX P a x with
 |some (.int _),some (.int k),some x=>some (.cnv k x)
 |some .string,some (.slice e),some x=>match P.underlying e with
  |some (.int .u8)=>some (if mu then .s2o e x else .s2b x)
  |_=>none
 |some (.slice e),some .string,some x=>match P.underlying e with
  |some (.int .u8)=>some (.b2s x)
  |_=>none
 |_,_,_=>none
def xr(P:Program)(e:TypeId):Option AV:=match P.info? e with
 |some i=>match i.zero with
  |some z=>cA P e z
  |none=>none
 |none=>none
def AY(P:Program)(t:TypeId)(m k:Operand)(ok:Bool):Option CI:=
 match P.underlying t with
 |some (.map kt et)=>match cX P t m,cX P kt k,dU P 12 kt,xr P et with
  |some m,some k,some ks,some z=>some (.lkp (dv P kt) ks z ok m k)
  |_,_,_,_=>none
 |_=>none
def vY(P:Program)(t:TypeId)(m k v:Operand):Option CI:=
 match P.underlying t with
 |some (.map kt et)=>match cX P t m,cX P kt k,cX P et v,dU P 12 kt with
  |some m,some k,some v,some ks=>some (.mup (dv P kt) ks m k v)
  |_,_,_,_=>none
 |_=>none
def AZ(P:Program)(t:TypeId)(m k:Operand):Option CI:=
 match P.underlying t with
 |some (.map kt et)=>match cX P t m,cX P kt k,dU P 12 kt,xr P et with
  |some m,some k,some ks,some z=>some (.men (dv P kt) ks z m k)
  |_,_,_,_=>none
 |_=>none
def B0(P:Program)(t:TypeId)(m i v:Operand):Option CI:=
 match P.underlying t with
 |some (.map _ et)=>match cX P t m,cX P 0 i,cX P et v with
  |some m,some i,some v=>some (.mst m i v)
  |_,_,_=>none
 |_=>none
def AT(P:Program)(t:TypeId)(x i:Operand):Option CI:=
 match P.underlying t,cX P 0 x,cX P 0 i with
 |some (.slice e),some x,some i=>match P.info? e with
  |some j=>some (.iad j.size x i)
  |none=>none
 |some (.array n e),some x,some i=>match P.info? e with
  |some j=>some (.iap n j.size x i)
  |none=>none
 |_,_,_=>none
def S5(a:List Nat)(o:Oper):Bool:=(o.dst.map λd=>a.contains (d+200000)).getD false
def ES:Value->Bool
 | .slice none 0 0=>true
 |_=>false
def DT:X->X
 | .c a=> .c (datA a)
 |x=>x
def vW(P:Program)(a:List Nat)(o:Oper)(x:Operand):Option CI:=
 match S5 a o,x,P.underlying o.type with
 |true,.const v,some (.slice e)=>if ES v then some (.nlr e (P.cellsOf e))else(cX P o.type x).map .mov
 |_,_,_=>(cX P o.type x).map .mov
def mz(P:Program)(d:List Nat)(o:Oper):Option CI:=
 match o.op with
 | .move x=>vW P d o x
 | .assign x=>vW P d o x
 | .pick c a b=>match cX P 0 c,cX P o.type a,cX P o.type b with
  |some c,some a,some b=>some (.pick c a b)
  |_,_,_=>none
 | .load t x=>match kW P t,cX P 0 x with
  |some n,some x=>some (.ld n x)
  |_,_=>none
 | .store t x v=>match P.info? t,cX P 0 x,cX P t v with
  |some i,some x,some v=>some (.st i.size x (DT v))
  |_,_,_=>none
 | .fieldAddr t x f=>match P.underlying t,cX P 0 x with
  |some (.struct fs),some x=>match fs[f]? with
   |some g=>if P.cellsOf g.type=0 then none else some (.fad g.offset x)
   |none=>none
  |_,_=>none
 | .indexAddr t x i=>AT P t x i
 | .index t x i=>AU P t x i
 | .field t x f=>match P.underlying t,cX P t x with
  |some (.struct fs),some x=>match fs[f]? with
   |some g=>match kW P g.type with
    |some n=>some (.fld g.offset n x)
    |none=>none
   |none=>none
  |_,_=>none
 | .extract x i=>(cX P 0 x).map λx=> .ext x i
 | .binOp j t x y _=>AQ P j t x y
 | .unOp .not _ x=>(cX P 0 x).map .not
 | .unOp .neg t x=>match P.underlying t with
  |some (.int _)=>(cX P 0 x).map (.un .neg)
  |_=>none
 | .unOp .xor t x=>match P.underlying t with
  |some (.int _)=>(cX P 0 x).map (.un .xor)
  |_=>none
 | .slice t x lo hi mx=>yf P t x lo hi mx
 | .box t x=>(cX P t x).map (if frozen d o then .bxf else .box)
 | .alloc t=>match P.info? t with
  |some i=>match i.zero with
   |some z=>(cA P t z).map λc=>if frozen d o then .bxt t (.c c)else .box (.c c)
   |none=>none
  |none=>none
 | .build t e=>vV P (QN d o) t e.toList
 | .buildSlice t n e=>ye P (frozen d o) (BN d o) t n e.toList
 | .makeSlice t l c=>yd P (BN d o) t l c
 | .convert h dst x=>yc P (BN d o) h dst x
 | .nilCheck x=>(cX P 0 x).map .nck
 | .makeFunc (.func f) xs ys=>match je P [] xs.toList,je P [] ys.toList with
  |some xs,some ys=>some (.mkf f xs ys)
  |_,_=>none
 | .makeMap t none=>match P.underlying t with
  |some (.map kt _)=>some (.mkm (dv P kt))
  |_=>none
 | .lookup t m k ok=>AY P t m k ok
 | .mapUpdate t m k v=>vY P t m k v
 | .insert t m k v=>vY P t m k v
 | .mapEntry t m k=>AZ P t m k
 | .entryStore t m i v=>B0 P t m i v
 | .call c=>AR P (BN d o) c
 |_=>none
theorem dY.value{P:Program}{o:Oper}{a:Act}{w:World}{Q:Value->World->Prop}{v:Value}{w':World}(h:(execOp a.eval o).run P w= .ok (.value v) w')(c:Q v w'):dY P o a w Q:=λb r d=>by
 refine⟨λf _=>tQ r f,?_⟩;rw[xy,Cw b,h];exact⟨v,rfl,c⟩
theorem dY.skip{P:Program}{o:Oper}{a:Act}{w:World}{Q:Value->World->Prop}{w':World}(h:(execOp a.eval o).run P w= .ok .skip w')(c:Q undef w'):dY P o a w Q:=λb r d=>by
 refine⟨λf _=>tQ r f,?_⟩;rw[xy,Cw b,h];exact⟨undef,rfl,c⟩
theorem fh{P:Program}{w w':World}{s:Sem Value}{v:Value}(h:s.run P w= .ok v w'):(do pure (Next.value (<-s)):Sem Next).run P w= .ok (.value v) w':=by
 simp only[bP,h,bV,cJ]
theorem xc{P:Program}{w w':World}{s:Sem Unit}(h:s.run P w= .ok () w'):(do s;pure Next.skip:Sem Next).run P w= .ok .skip w':=by
 simp only[bP,h,bV,cJ]
theorem Yw{P:Program}(w:World){c:BinOp}{u v r:Value}(h:dq c u v=some r)(t:TypeId)(x y:Operand):(do eqGuard c t x y u v;binOp c t u v:Sem Value).run P w= .ok r w:=by
 unfold dq at h;split at h<;>first
  |(cases h;done)
  |(split at h<;>first|(cases h;done)|(rename_i e;subst e;obtain rfl:=aJ h;simp[eqGuard,binOp,Op.intArith,Op.intCmp,go_sem];done))
  |(split at h<;>first|(cases h;done)|(rename_i e;subst e;obtain rfl:=aJ h;simp[eqGuard,binOp,Op.intBits,go_sem];done))
  |(split at h<;>first|(cases h;done)|(rename_i e;obtain⟨e,d⟩:=e;subst e;obtain rfl:=aJ h;simp[eqGuard,binOp,Op.intDiv,if_neg d,go_sem];done))
  |(split at h<;>first|(cases h;done)|(rename_i e;obtain rfl:=aJ h;simp[eqGuard,binOp,Op.shift,if_neg (Int.not_lt.2 e),go_sem];done))
  |(obtain rfl:=aJ h;simp[eqGuard,binOp,Op.stringOp,go_sem];done)
  |skip
 rename_i a b;split at h
 .rename_i f;obtain rfl:=aJ h;have: ¬(((a.size+b.size:Nat):Int)>IntKind.i64.max):=by
   rw[show IntKind.i64.max=9223372036854775807 by decide];omega
  simp only[eqGuard,binOp,Op.stringOp,if_neg this];simp[go_sem]
 .cases h
theorem RA.sc_eq{k:aP}{w:World}{v u:Value}{x:AV}(h:RA k w v x)(a:x.sc? =some u):v=u:=by
 unfold AV.sc? at a;split at a
 .obtain rfl:=aJ a;have:=h.d_inv;cases this;rfl
 .cases a
theorem AV.bool_sc{x:AV}{b:Bool}(h:x.bool? =some b):x.sc? =some (.bool b):=by
 unfold AV.bool? at h;split at h
 .obtain rfl:=aJ h;rfl
 .cases h
theorem AV.num_sc{x:AV}{n:Int}(h:x.num? =some n): ∃k,x.sc? =some (.int k n):=by
 unfold AV.num? at h;split at h
 .obtain rfl:=aJ h;exact⟨_,rfl⟩
 .cases h
theorem AV.int_sc{x:AV}{n:Int}(h:x.int? =some n):x.sc? =some (.int .i64 n):=by
 unfold AV.int? at h;split at h
 .obtain rfl:=aJ h;rfl
 .cases h
theorem AV.str_sc{x:AV}{b:ByteArray}(h:x.str? =some b):x.sc? =some (.string b):=by
 unfold AV.str? at h;split at h
 .obtain rfl:=aJ h;rfl
 .cases h
theorem MO{sz:Nat}{x:AV}{rows:List (List D)}(h:slA sz x=some rows):x.toL=some (.sl sz rows):=by
 unfold slA at h;split at h
 .split at h
  .rename_i e;obtain rfl:=e;obtain rfl:=aJ h;rfl
  .cases h
 .split at h
  .rename_i e;obtain rfl:=e;obtain rfl:=aJ h;rfl
  .cases h
 .split at h
  .rename_i e;obtain rfl:=e;obtain rfl:=aJ h;rfl
  .cases h
 .split at h
  .rename_i e;obtain rfl:=e;obtain rfl:=aJ h;rfl
  .cases h
 .cases h
theorem RA.slA{k:aP}{w:World}{v:Value}{sz:Nat}{x:AV}{rows:List (List D)}(h:RA k w v x)(a:Bb.slA sz x=some rows):RD k.I w v (.sl sz rows):=h.toL (MO a)
theorem My{P:Program}{w:World}{p:Addr}{v:Value}(hc:w.cell? p=some v){t:TypeId}(c:kW P t=some none):(Instr.loadAt t (.pointer (some p))).run P w= .ok v w:=by
 obtain⟨d,i,e,hi,a⟩:=Gj c;have b:d.isRow=false:=by cases h:d.isRow<;>simp[h]at a⊢
 simp[Instr.loadAt,Instr.sureAddr,loadVar,zw e,b,hc]
theorem Nd{P:Program}{t:TypeId}{m:Nat}(c:kW P t=some (some m)): ∃d,P.underlying t=some d/\d.isRow=true/\(P.info? t).map (·.size)=some m:=by
 obtain⟨d,i,e,hi,a⟩:=Gj c;have b:d.isRow=true:=by cases h:d.isRow<;>simp[h]at a⊢
 rw[b]at a;simp at a;exact⟨d,e,b,by rw[hi];simp[a]⟩
theorem Mz{P:Program}{w:World}{b off:Nat}{us:List Value}(hc:w.rangeAt b off us){t:TypeId}(f:kW P t=some (some us.length)):(Instr.loadAt t (.pointer (some ⟨b,off,none⟩))).run P w= .ok (.agg us.toArray) w:=by
 obtain⟨d,a,c,e⟩:=Nd f;simp only[Instr.loadAt,Instr.sureAddr,bP,cJ,bV,run_loadVar_mid w b off t us d hc a c e]
theorem vP{w:World}{b t:Nat}{us:List Value}(h:w.heap[b]?=some (.cells us.toArray t (0,0)))(i:Nat):w.cell? ⟨b,i,none⟩=us[i]? :=by
 rw[cell_of_row w b i _ t (0,0) h];simp
theorem BJ{P:Program}{k:aP}{w:World}{b base off:Nat}{us:List Value}{cs:List AV}{t:TypeId}{n:Option Nat}{d:AV}(hc: ∀i u,us[i]?=some u->w.cell? ⟨b,base+i,none⟩=some u)(o:bZ k w us cs)(p:kW P t=some n)(l:qj cs off n=some d):
  ∃v,(Instr.loadAt t (.pointer (some ⟨b,base+off,none⟩))).run P w= .ok v w/\RA k w v d:=by
 cases n with
 |none=>
  obtain⟨u,g,q,h⟩:=o.get l;exact⟨u,My (hc off u g) p,h⟩
 |some m=>
  have a:(if off+m<=cs.length then some (aggA ((cs.drop off).take m))else none)=some d:=l;split at a
  .rename_i hm;obtain rfl:=aJ a;have f:=(o.drop off).take m;have e:((us.drop off).take m).length=m:=by rw[f.1];simp;omega
   refine⟨.agg ((us.drop off).take m).toArray,Mz (λj v c=> ?_) (by rw[e];exact p),RA.aggA (.agg f.1 f.2.1 f.2.2)⟩;rw[fL]at c;split at c
   .rw[gf]at c;rw[lq];exact hc _ _ c
   .cases c
  .cases a
theorem K5{P:Program}{k:aP}{w:World}{b base off:Nat}{us:List Value}{ds:List D}{t:TypeId}{n:Option Nat}{d:AV}(hc: ∀i u,us[i]?=some u->w.cell? ⟨b,base+i,none⟩=some u)(p:dA k.I w us ds)(q:kW P t=some n)(o:wN ds off n=some d):
  ∃v,(Instr.loadAt t (.pointer (some ⟨b,base+off,none⟩))).run P w= .ok v w/\RA k w v d:=by
 cases n with
 |none=>
  obtain⟨e,r,rfl⟩:=dy.1 o;obtain⟨u,h,l⟩:=p.get r;exact⟨u,My (hc off u h) q,.d l⟩
 |some m=>
  have a:(if off+m<=ds.length then some (AV.d (.agg ((ds.drop off).take m)))else none)=some d:=o;split at a
  .rename_i hm;obtain rfl:=aJ a;have g:=(p.drop off).take m;have f:((us.drop off).take m).length=m:=by rw[g.1];simp;omega
   refine⟨.agg ((us.drop off).take m).toArray,Mz (λj v c=> ?_) (by rw[f];exact q),.d (.agg _ _ g.1 g.2.1 g.2.2)⟩;rw[fL]at c;split at c
   .rw[gf]at c;rw[lq];exact hc _ _ c
   .cases c
  .cases a
theorem uf{o:Option aa}{cs:List AV}(h:nV o=some cs):o=some (.cells cs):=by
 unfold nV at h;split at h
 .obtain rfl:=aJ h;rfl
 .cases h
theorem jo{n:Nat}{o:Option aa}{sz:Nat}{ds:List AV}(h:gY n o=some (sz,ds)): ∃e,o=some (.vec e sz ds)/\0<sz/\ds.length=n*sz:=by
 unfold gY at h;split at h
 .split at h
  .rename_i hc;cases h;exact⟨_,rfl,hc.1,hc.2⟩
  .cases h
 .cases h
theorem yN{ag:Bool}{o:Option aa}{es:List (List Value×AV)}(h:rp ag o=some es):o=some (.map ag es):=by
 unfold rp at h;split at h
 .split at h
  .rename_i e;subst e;obtain rfl:=aJ h;rfl
  .cases h
 .cases h
theorem Kc{o:Option aa}{n:Int}(h:sO o=some n): ∃ag es,o=some (.map ag es)/\n=es.length:=by
 unfold sO at h;split at h
 .obtain rfl:=aJ h;exact⟨_,_,rfl,rfl⟩
 .cases h
theorem Ti{o:Option aa}{ag:Bool}{es:List (List Value×AV)}(h:yO o=some (ag,es)):o=some (.map ag es):=by
 unfold yO at h;split at h
 .obtain⟨rfl,rfl⟩:=fC (aJ h);rfl
 .cases h
section
variable {LL:Nat->Code->CC->Prop} {P:Program} {o:Oper} {fr:Fr} {s s':List aa} {d:AV}
theorem zQ{B:Nat}{k:aP}{w:World}(j:St LL B k s w){id e sz n:Nat}{ds:List AV}(f:s[id]?=some (.vec e sz ds))(l:0<sz)(v:ds.length=n*sz){b:Nat}
  (hb: ∃u c,k.own[id]?=some (.row u c)/\n<=c/\(n=c->u.ownBlock=some b)):
  ∃u xs cap cur,k.own[id]?=some (.row u n)/\w.ownsRow B e sz u n xs/\u= .slice (some ⟨b,0,none⟩) n cap/\B<=b/\w.heap[b]?=some (.cells cur e (0,0))/\n<=cap/\cap<=maxLen/\cur.size=cap*sz/\cur.toList.take (n*sz)=xs/\bZ k w xs ds/\k.I b=0/\ ∀(i:Nat) (x:Value),xs[i]?=some x->w.cell? ⟨b,i,none⟩=some x:=by
 obtain⟨u,c,p,z,t⟩:=hb;obtain⟨C,A,xs,m,d,q,o,r⟩:=j.vec f;rw[p]at m;cases m;have h:n=c:=by
  rw[v]at o;exact mf l o
 subst h;have a:=t rfl;rcases d.2 with⟨rfl,_⟩|⟨g,cap,cur,rfl,k2,k3,k4,k5,k6,k7⟩
 .simp[Value.ownBlock]at a
 .simp[Value.ownBlock]at a;subst a;refine⟨_,xs,cap,cur,p,d,rfl,k2,k3,k4,k5,k6,k7,r,q _ rfl,λi x y=> ?_⟩;have:=d.cells (g:=g) rfl i x y;rw[fW,aw]at this;exact this
theorem eh{o:Option AV}(h:ret s o=some (d,s')):o=some d/\s'=s:=by
 obtain⟨x,a,b⟩:=dy.1 h;obtain⟨rfl,rfl⟩:=fC b;exact⟨a,rfl⟩
theorem aT{α β:Type}{o:Option α}{f:α->Option β}{y:β}(h:o.bind f=some y): ∃x,o=some x/\f x=some y:=Ae.1 h
theorem bK{α β:Type}{o:Option α}{f:α->β}{y:β}(h:o.map f=some y): ∃x,o=some x/\f x=y:=dy.1 h
theorem bA.pure(h: ∀(B:Nat) (k:aP) (a:Act) (w:World),jX k w a o fr->St LL B k s w-> ∃v,(execOp a.eval o).run P w= .ok (.value v) w/\RA k w v d):bA LL P o fr s d s:=
 λB k a w f b=>let⟨v,c,e⟩:=h B k a w f b;dY.value c ⟨k,e,Ext.refl B k w,b⟩
theorem Ug{k:aP}{w:World}{a:Act}{o:Oper}{fr:Fr}(h:jX k w a o fr){p:Operand}(hp:p∈o.op.operands): ∀u y,p= .tmp u->look fr u=some y->RA k w (a.tmps.getD u undef) y:=
 λu y e b=>h u y (by rw[<-e];exact hp) b
theorem bU{k:aP}{w:World}{a:Act}{o:Oper}{fr:Fr}(b:jX k w a o fr){p:Operand}(hp:p∈o.op.operands){t:TypeId}{x:X}(d:cX P t p=some x){c:AV}(hc:x.ev fr=some c):RA k w (a.eval p) c:=
 DG d hc (Ug b hp)
theorem BQ{x:Operand}{t:TypeId}{y:X}(b:o.op= .move x\/o.op= .assign x)(f:cX P t x=some y)(h:(CI.mov y).sem fr s=some (d,s')):bA LL P o fr s d s':=by
 obtain⟨hc,rfl⟩:=eh h;refine bA.pure λB k a w c e=>⟨a.eval x,?_,bU (p:=x) c (by rcases b with b|b<;>rw[b]<;>simp[Op.operands]) f hc⟩
 unfold execOp;rcases b with b|b<;>rw[b]<;>rfl
theorem U6{c a b:Operand}{t:TypeId}{x y z:X}(f:o.op= .pick c a b)(q:cX P 0 c=some x)(r:cX P t a=some y)(u:cX P t b=some z)(h:(CI.pick x y z).sem fr s=some (d,s')):bA LL P o fr s d s':=by
 obtain⟨hc,rfl⟩:=eh h;obtain⟨v,n,j⟩:=aT hc;obtain⟨A,g,hb⟩:=aT n;refine bA.pure λB k i w e m=> ?_;have l:=(bU (p:=c) e (by rw[f];simp[Op.operands]) q g).sc_eq (AV.bool_sc hb);cases v with
 |true=>
  refine⟨i.eval a,?_,bU (p:=a) e (by rw[f];simp[Op.operands]) r j⟩;unfold execOp;rw[f];simp[l,asBool]
 |false=>
  refine⟨i.eval b,?_,bU (p:=b) e (by rw[f];simp[Op.operands]) u j⟩;unfold execOp;rw[f];simp[l,asBool]
theorem TV{t:TypeId}{p:Operand}{n:Option Nat}{x:X}(M:o.op= .load t p)(I:kW P t=some n)(U:cX P 0 p=some x)(h:(CI.ld n x).sem fr s=some (d,s')):bA LL P o fr s d s':=by
 have hp:p∈o.op.operands:=by rw[M];simp[Op.operands]
 obtain⟨hc,rfl⟩:=eh h;obtain⟨v,T,j⟩:=aT hc;refine bA.pure λB k a w A D=> ?_;have C:=bU A hp U T;have f: ∀(u:Value),(Instr.loadAt t (a.eval p)).run P w= .ok u w->(execOp a.eval o).run P w= .ok (.value u) w:=λu C=>by
  unfold execOp;rw[M];exact fh C
 unfold kU at j;split at j
 .have E:=C.d_inv;generalize r:a.eval p=u at E f;cases E with
  |ref b off us ds E Q R S=>
   obtain⟨y,c,g⟩:=K5 (P:=P) (base:=off) (off:=0) (λi u r=>(R i u r).2) ⟨E,Q,S⟩ I j;exact⟨y,f y c,g⟩
 .rename_i id off;obtain⟨cs,l,j⟩:=aT j;obtain⟨b,hb,q⟩:=C.ptr_inv;obtain⟨V,t',us,F,K,L,_⟩:=D.cells (uf l);rw[hb]at F;cases F;obtain⟨y,c,g⟩:=BJ (P:=P) (base:=0) (off:=off) (b:=b) (λi u r=>by rw[aw,vP K];exact r) L I j;rw[aw]at c;exact⟨y,f y (by rw[q];exact c),g⟩
 .rename_i id m off;obtain⟨⟨sz,ds⟩,l,j⟩:=aT j;obtain⟨e,H,J,z⟩:=jo l;obtain⟨b,q,hb⟩:=C.vptr_inv;obtain⟨u,xs,cap,cur,F,K,rfl,L,W,Y,Z,g7,g8,O,N,G⟩:=zQ D H J z hb;obtain⟨y,c,g⟩:=BJ (P:=P) (base:=0) (off:=off) (b:=b) (λi u r=>by rw[aw];exact G i u r) O I j;rw[aw]at c
  exact⟨y,f y (by rw[q];exact c),g⟩
 .cases j
theorem Yd{k:aP}{w:World}{b off n:Nat}{us:List Value}{ds:List D}(e: ∀i u,us[i]?=some u->off+i<k.I b/\w.cell? ⟨b,off+i,none⟩=some u)(h:dA k.I w us ds):RA k w (.pointer (some ⟨b,off+n,none⟩)) (.d (.ref (ds.drop n))):=by
 have a:=h.drop n;refine .d (.ref _ _ _ _ a.1 a.2.1 (λi u c=> ?_) a.2.2);rw[gf]at c;rw[lq];exact e _ u c
theorem E8{k:aP}{w:World}{v:Value}{x y:AV}{n:Nat}(h:RA k w v x)(a:nC n x=some y): ∃b off,v= .pointer (some ⟨b,off,none⟩)/\RA k w (.pointer (some ⟨b,off+n,none⟩)) y:=by
 unfold nC at a;split at a
 .obtain rfl:=aJ a;have c:=h.d_inv;cases c with
  |ref b off us ds c e f g=>exact⟨b,off,rfl,Yd f ⟨c,e,g⟩⟩
 .obtain rfl:=aJ a;obtain⟨b,hb,d⟩:=h.ptr_inv;exact⟨b,_,d,.ptr hb⟩
 .obtain rfl:=aJ a;obtain⟨b,d,hb⟩:=h.vptr_inv;exact⟨b,_,d,.vptr hb⟩
 .cases a
theorem TN{t:TypeId}{p:Operand}{f:Nat}{l:Array Field}{c:Field}{x:X}(m:o.op= .fieldAddr t p f)(z:P.underlying t=some (.struct l))(r:l[f]?=some c)(j:P.cellsOf c.type≠0)(C:cX P 0 p=some x)
  (h:(CI.fad c.offset x).sem fr s=some (d,s')):bA LL P o fr s d s':=by
 have hp:p∈o.op.operands:=by rw[m];simp[Op.operands]
 obtain⟨hc,rfl⟩:=eh h;obtain⟨v,A,n⟩:=aT hc;refine bA.pure λB k a w e y=> ?_;obtain⟨b,off,q,u⟩:=E8 (bU e hp C A) n;refine⟨_,?_,u⟩;unfold execOp;rw[m];refine fh ?_;have g:(sizeOf c.type).run P w= .ok (P.cellsOf c.type) w:=by
  unfold Program.cellsOf at j⊢;unfold sizeOf typeInfo;cases hi:P.info? c.type with
  |none=>simp[hi]at j
  |some i=>simp[hi]
 simp only[Instr.fieldAt,bP,run_underlying z,bV,r,q,Instr.sureAddr,cJ,fieldPlace,g,if_neg j,fW]
theorem U3{p:Operand}{x:X}(e:o.op= .nilCheck p)(m:cX P 0 p=some x)(h:(CI.nck x).sem fr s=some (d,s')):bA LL P o fr s d s':=by
 have hp:p∈o.op.operands:=by rw[e];simp[Op.operands]
 obtain⟨hc,rfl⟩:=eh h;obtain⟨v,l,f⟩:=aT hc;refine bA.pure λB k a w c j=> ?_;obtain⟨b,off,g,i⟩:=E8 (bU c hp m l) f;refine⟨_,?_,i⟩;unfold execOp;rw[e];dsimp only;rw[g];rfl
theorem TP{t e:TypeId}{j:TypeInfo}{p q:Operand}{x y:X}(ho:o.op= .indexAddr t p q)(hu:P.underlying t=some (.slice e))(hj:P.info? e=some j)(hx:cX P 0 p=some x)(hy:cX P 0 q=some y)
  (h:(CI.iad j.size x y).sem fr s=some (d,s')):bA LL P o fr s d s':=by
 have hp:p∈o.op.operands:=by rw[ho];simp[Op.operands]
 have hq:q∈o.op.operands:=by rw[ho];simp[Op.operands]
 obtain⟨hc,rfl⟩:=eh h;obtain⟨n,Z,hc⟩:=aT hc;obtain⟨iv,W,Z⟩:=aT Z;obtain⟨v,hv,C⟩:=aT hc;refine bA.pure λB k a w D R=> ?_;have U:=bU D hp hx hv;obtain⟨ik,V⟩:=AV.num_sc Z;have hi:=(bU D hq hy W).sc_eq V
 have i: ∀(b off m c:Nat),a.eval p= .slice (some ⟨b,off,none⟩) m c->0<=n->n<m->(execOp a.eval o).run P w= .ok (.value (.pointer (some ⟨b,off+n.toNat*j.size,none⟩))) w:=λb off m c h1 h3 h4=>by
  unfold execOp;rw[ho];refine fh ?_;have F:0<=n/\n<(m:Int):=⟨h3,h4⟩
  simp only[Instr.indexAt,h1,hi,asIntOf,bP,cJ,bV,run_underlying hu,if_pos F,sizeOf,typeInfo,run_program,hj,fW]
 unfold qo at C;split at C
 .rename_i id m T;obtain⟨⟨sz,ds⟩,G,f⟩:=aT C;obtain⟨e',I,L,z⟩:=jo G;dsimp only at f;split at f
  .rename_i l;obtain⟨rfl,rfl,M,c2⟩:=l;obtain rfl:=aJ f;obtain⟨⟨ad,c,A⟩,u,n',hk,Y,H⟩:=U.vec_inv;obtain⟨u2,n2,xs,O,g2,g3,Q,g5⟩:=R.vec I;rw[hk]at O;cases O;have J:m=n':=by
    rw[z]at Q;exact mf L Q
   subst J;have S:=H rfl;rw[S]at A;rcases g2.2 with⟨_,h9⟩|⟨g,cap,cur,hvv',k2,_⟩
   .omega
   .refine⟨_,i g 0 m cap (by rw[S];exact hvv') M a8,?_⟩;rw[aw];exact .vptr ⟨u,m,hk,bg _,λ_=>by rw[hvv'];rfl⟩
  .cases f
 .rename_i id off m T;split at C
  .rename_i l;obtain⟨rfl,M,c2⟩:=l;obtain rfl:=aJ C;obtain⟨b,c,hb,A,_,_⟩:=U.win_inv;exact⟨_,i b off m c A M a8,.ptr hb⟩
  .cases C
 .rename_i id N off m T;obtain⟨⟨sz,ds⟩,G,f⟩:=aT C;obtain⟨e',I,L,z⟩:=jo G;dsimp only at f;split at f
  .rename_i l;obtain⟨rfl,rfl,M,c2,c3⟩:=l;obtain rfl:=aJ f;obtain⟨_,u,n',hk,Y,H⟩:=U.vwn_inv;obtain⟨u2,n2,xs,O,g2,g3,Q,g5⟩:=R.vec I;rw[hk]at O;cases O;have J:N=n':=by
    rw[z]at Q;exact mf L Q
   subst J;obtain⟨b,c,a0,A,_,_⟩:=H rfl;have a1:u.ownBlock=some b:=by rw[a0];rfl
   refine⟨_,i b (off*j.size) m c A M a8,?_⟩;rw[<-fQ];exact .vptr ⟨u,N,hk,bg _,λ_=>a1⟩
  .cases f
 .obtain⟨rows,K,f⟩:=aT C;split at f
  .rename_i h0;obtain⟨r,E,rfl⟩:=bK f;obtain⟨b,off,c,a2,a3⟩:=(U.slA K).sl_at E;have a4:n.toNat<rows.length:=(aV.1 E).1;exact⟨_,i b off rows.length c a2 h0 a8,.d a3⟩
  .cases f
theorem TQ{t e:TypeId}{n:Nat}{j:TypeInfo}{p q:Operand}{x y:X}(z:o.op= .indexAddr t p q)(J:P.underlying t=some (.array n e))(F:P.info? e=some j)(L:cX P 0 p=some x)(M:cX P 0 q=some y)
  (h:(CI.iap n j.size x y).sem fr s=some (d,s')):bA LL P o fr s d s':=by
 have hp:p∈o.op.operands:=by rw[z];simp[Op.operands]
 have G:q∈o.op.operands:=by rw[z];simp[Op.operands]
 obtain⟨hc,rfl⟩:=eh h;obtain⟨m,hm,hc⟩:=aT hc;obtain⟨O,u,hm⟩:=aT hm;obtain⟨v,K,g⟩:=aT hc;refine bA.pure λB k a w c I=> ?_;obtain⟨N,r⟩:=AV.num_sc hm;have hi:=(bU c G M u).sc_eq r;have key: ∃A,0<=m/\m<n/\nC (m.toNat*j.size) v=some A/\A=d:=by
  unfold wT at g;split at g<;>first|(cases g;done)|(split at g<;>first|(cases g;done)|(rename_i i;obtain rfl:=aJ g;exact⟨_,i.1,i.2,rfl,rfl⟩))
 obtain⟨_,C,D,l,rfl⟩:=key;obtain⟨b,off,E,H⟩:=E8 (bU c hp L K) l;refine⟨_,?_,H⟩;unfold execOp;rw[z];refine fh ?_;have f:0<=m/\m<(n:Int):=⟨C,D⟩
 simp only[Instr.indexAt,E,hi,asIntOf,bP,cJ,bV,run_underlying J,Instr.sureAddr,if_pos f,sizeOf,typeInfo,run_program,F,fW]
theorem KV{k:aP}{w:World}{us:List Value}{cs:List AV}{t:TypeId}{off:Nat}{n:Option Nat}{d:AV}(e:bZ k w us cs)(s:kW P t=some n)(r:qj cs off n=some d): ∃v,(part t us.toArray off).run P w= .ok v w/\RA k w v d:=by
 cases n with
 |none=>
  obtain⟨u,p,c,q⟩:=e.get r;refine⟨u,?_,q⟩;obtain⟨f,i,c,hi,o⟩:=Gj s;have e:f.isRow=false:=by cases h:f.isRow<;>simp[h]at o⊢
  have b:us.toArray[off]?=some u:=by simpa using p
  simp only[part,bP,zw c,e,bV,l7,if_false,b,cJ]
 |some m=>
  have a:(if off+m<=cs.length then some (aggA ((cs.drop off).take m))else none)=some d:=r;split at a
  .obtain rfl:=aJ a;have j:=(e.drop off).take m;refine⟨.agg ((us.drop off).take m).toArray,?_,RA.aggA (.agg j.1 j.2.1 j.2.2)⟩;obtain⟨f,x,y,g⟩:=Nd s;cases hi:P.info? t with
   |none=>simp[hi]at g
   |some i=>
    simp[hi]at g;have l:us.toArray.extract off (off+m)=((us.drop off).take m).toArray:=by
     apply Array.ext';simp[List.take_drop]
    simp only[part,bP,zw x,y,bV,if_true,sizeOf,typeInfo,run_program,hi,g,cJ,l]
  .cases a
theorem TO{t:TypeId}{p:Operand}{f:Nat}{i:Array Field}{c:Field}{n:Option Nat}{x:X}(j:o.op= .field t p f)(D:P.underlying t=some (.struct i))(y:i[f]?=some c)(z:kW P c.type=some n)(F:cX P t p=some x)
  (h:(CI.fld c.offset n x).sem fr s=some (d,s')):bA LL P o fr s d s':=by
 have hp:p∈o.op.operands:=by rw[j];simp[Op.operands]
 obtain⟨hc,rfl⟩:=eh h;obtain⟨v,E,g⟩:=aT hc;obtain⟨cs,e,q⟩:=aT g;refine bA.pure λB k a w b C=> ?_;obtain⟨us,r,A⟩:=(bU b hp F E).row e;obtain⟨u,l,m⟩:=KV (P:=P) A z q;refine⟨u,?_,m⟩;unfold execOp;rw[j];refine fh ?_;simp only[Instr.field,r,bP,run_underlying D,bV,y,asAgg,cJ,l]
theorem TR{t e:TypeId}{z:Nat}{j:TypeInfo}{p q:Operand}{n:Option Nat}{x y:X}(r:o.op= .index t p q)(K:P.underlying t=some (.array z e))(G:kW P e=some n)(F:P.info? e=some j)(M:cX P t p=some x)(N:cX P 0 q=some y)
  (h:(CI.idx z j.size n x y).sem fr s=some (d,s')):bA LL P o fr s d s':=by
 have hp:p∈o.op.operands:=by rw[r];simp[Op.operands]
 have H:q∈o.op.operands:=by rw[r];simp[Op.operands]
 obtain⟨hc,rfl⟩:=eh h;obtain⟨m,hm,hc⟩:=aT hc;obtain⟨Q,l,hm⟩:=aT hm;obtain⟨v,L,b⟩:=aT hc;unfold FI at b;split at b
 .rename_i f;obtain⟨cs,g,D⟩:=aT b;refine bA.pure λB k a w c J=> ?_;obtain⟨O,i⟩:=AV.num_sc hm;have hi:=(bU c H N l).sc_eq i;obtain⟨us,E,I⟩:=(bU c hp M L).row g;obtain⟨u,A,C⟩:=KV (P:=P) I G D;refine⟨u,?_,C⟩;unfold execOp;rw[r];refine fh ?_
  simp only[Instr.index,E,hi,asIntOf,bP,cJ,bV,run_underlying K,if_pos f,sizeOf,typeInfo,run_program,F,A]
 .cases b
theorem Ua{t:TypeId}{p q:Operand}{x y:X}(l:o.op= .index t p q)(z:P.underlying t=some .string)(C:cX P t p=some x)(D:cX P 0 q=some y)(h:(CI.six x y).sem fr s=some (d,s')):bA LL P o fr s d s':=by
 have hp:p∈o.op.operands:=by rw[l];simp[Op.operands]
 have r:q∈o.op.operands:=by rw[l];simp[Op.operands]
 obtain⟨hc,rfl⟩:=eh h;obtain⟨b,hb,hc⟩:=aT hc;obtain⟨v,A,hb⟩:=aT hb;obtain⟨m,hm,g⟩:=aT hc;obtain⟨F,j,hm⟩:=aT hm;unfold FK at g;split at g
 .rename_i f;obtain⟨c,hg,rfl⟩:=bK g;refine bA.pure λB k a w e u=>⟨_,?_,.d (RD.sc _)⟩
  obtain⟨E,i⟩:=AV.num_sc hm;have hi:=(bU e r D j).sc_eq i;have n:=(bU e hp C A).sc_eq (AV.str_sc hb);unfold execOp;rw[l];refine fh ?_;simp only[Instr.index,n,hi,asIntOf,bP,cJ,bV,run_underlying z,if_pos f,hg]
 .cases g
theorem TM{p:Operand}{i:Nat}{x:X}(q:o.op= .extract p i)(A:cX P 0 p=some x)(h:(CI.ext x i).sem fr s=some (d,s')):bA LL P o fr s d s':=by
 have hp:p∈o.op.operands:=by rw[q];simp[Op.operands]
 obtain⟨hc,rfl⟩:=eh h;obtain⟨v,z,j⟩:=aT hc;refine bA.pure λB k a w l t=> ?_;have r:=bU l hp A z;have b: ∀(us:List Value) (u:Value),a.eval p= .tuple us.toArray->us[i]?=some u->(execOp a.eval o).run P w= .ok (.value u) w:=λus u f g=>by
  unfold execOp;rw[q];refine fh ?_;have C:us.toArray[i]?=some u:=by simpa using g
  simp[Instr.extract,f,g]
 unfold tA at j;split at j
 .rename_i ds;obtain⟨e,n,rfl⟩:=bK j;have f:=r.d_inv;generalize y:a.eval p=u at f b;cases f with
  |tup us ds f g=>
   have hi:=(aV.1 n).1;have c:i<us.length:=by omega
   have hg:us[i]?=some us[i]:=bQ c;exact⟨us[i],b us _ rfl hg,.d (g i _ e hg n)⟩
 .rename_i cs;obtain⟨us,m,f,g⟩:=r.tup_inv;have hi:=(aV.1 j).1;have c:i<us.length:=by omega
  have hg:us[i]?=some us[i]:=bQ c;exact⟨us[i],b us _ m hg,g i _ d hg j⟩
 .cases j
theorem TD{j:BinOp}{t C:TypeId}{p q:Operand}{x y:X}(c:o.op= .binOp j t p q C)(z:cX P t p=some x)(A:cX P t q=some y)(h:(CI.bin j x y).sem fr s=some (d,s')):bA LL P o fr s d s':=by
 have hp:p∈o.op.operands:=by rw[c];simp[Op.operands]
 have l:q∈o.op.operands:=by rw[c];simp[Op.operands]
 obtain⟨hc,rfl⟩:=eh h;obtain⟨u,e,hc⟩:=aT hc;obtain⟨D,g,e⟩:=aT e;obtain⟨v,f,hc⟩:=aT hc;obtain⟨E,i,f⟩:=aT f;obtain⟨r,m,rfl⟩:=bK hc;refine bA.pure λB k a w b n=>⟨r,?_,.d (RD.sc _)⟩
 unfold execOp;rw[c];refine fh ?_;rw[(bU b hp z g).sc_eq e,(bU b l A i).sc_eq f];exact Yw w m t p q
theorem ME{k:aP}{w:World}: ∀{us:List Value} {cs:List AV} {vs:List Value},bZ k w us cs->kV cs=some vs->us=vs
 |[],[],vs,_,h=>by simpa[kV]using h
 |u::us,[],vs,h,_=>by have:=h.1;simp at this
 |[],c::cs,vs,h,_=>by have:=h.1;simp at this
 |u::us,c::cs,vs,h,a=>by
  unfold kV at a;split at a
  .rename_i e;cases e
  .rename_i v f e;obtain⟨rfl,rfl⟩:=List.cons.inj e;obtain⟨n,g,rfl⟩:=dy.1 a;have h0:=(h.2.2 0 u (.d (.sc v)) rfl rfl).d_inv;have l:u=v:=by cases h0;rfl
   have j:bZ k w us cs:=⟨by have:=h.1;simpa using this,λx b=>h.2.1 x (by simp[b]),λi x y b m=>h.2.2 (i+1) x y b m⟩
   rw[l,ME j g]
  .cases a
theorem RA.key_eq{k:aP}{w:World}{v:Value}{x:AV}{ag:Bool}{us:List Value}{t:TypeId}(h:RA k w v x)(i:x.key ag=some us)(b:ag=dv P t):v=valC P t us/\v.cells.toList=us:=by
 cases ag with
 |true=>
  have c:x.row.bind kV=some us:=i;obtain⟨cs,g,o⟩:=aT c;obtain⟨us',rfl,m⟩:=h.row g;obtain rfl:=ME m o;refine⟨?_,by simp[Value.cells]⟩;unfold dv at b;unfold Bb.valC;split at b
  .rename_i a;rw[a]
  .rename_i a;rw[a]
  .cases b
 |false=>
  have c:(x.sc?.bind λu=>if u.oneCell' then some [u]else none)=some us:=i;obtain⟨u,a,d⟩:=aT c;split at d
  .rename_i f;obtain rfl:=aJ d;obtain rfl:=h.sc_eq a;have p:v.cells= #[v]:=by cases v<;>first|rfl|simp[Value.oneCell']at f
   refine⟨?_,by rw[p]⟩;unfold dv at b;unfold Bb.valC;split at b
   .cases b
   .cases b
   .rename_i d l;split
    .rename_i j a;exact absurd a (d j)
    .rename_i n e a;exact absurd a (l n e)
    .rfl
  .cases d
end
end Go.Bb
namespace Go.Bb
open Go Go.RowKit Go.Ab Go.Proofs.Lg
section
variable {LL:Nat->Code->CC->Prop} {P:Program} {o:Oper} {fr:Fr} {s s':List aa} {d:AV}
theorem SP{P:Program}{g:BinOp}{t:TypeId}{ag:Bool}{ks:List SK}{f:Bool}(h:Be P g t=some (ag,ks,f)):Bd g=some f/\dU P 12 t=some ks/\ag=dv P t/\((dv P t=true/\P.eqGuardType P.depth t=false)\/P.underlying t=some .bool):=by
 unfold Be at h;split at h
 .rename_i n i c a;split at h
  .rename_i hg;obtain⟨d,hk,b⟩:=bK h;cases b;have:dv P t=true:=by unfold dv;rw[a]
   exact⟨c,hk,this.symm,.inl ⟨this,hg⟩⟩
  .cases h
 .rename_i n m e c a;split at h
  .rename_i hg;obtain⟨d,hk,b⟩:=bK h;cases b;have:dv P t=true:=by unfold dv;rw[a]
   exact⟨c,hk,this.symm,.inl ⟨this,hg⟩⟩
  .cases h
 .rename_i n c a;obtain⟨d,hk,b⟩:=bK h;cases b;have:dv P t=false:=by unfold dv;rw[a]
  exact⟨c,hk,this.symm,.inr a⟩
 .cases h
theorem TL{l:BinOp}{t Y:TypeId}{p q:Operand}{x y:X}{ag:Bool}{ks:List SK}{g:Bool}(z:o.op= .binOp l t p q Y)(T:cX P t p=some x)(U:cX P t q=some y)(Q:Be P l t=some (ag,ks,g))(h:(CI.eqa ag ks g x y).sem fr s=some (d,s')):bA LL P o fr s d s':=by
 have hp:p∈o.op.operands:=by rw[z];simp[Op.operands]
 have R:q∈o.op.operands:=by rw[z];simp[Op.operands]
 obtain⟨hc,rfl⟩:=eh h;obtain⟨us,c,m⟩:=aT hc;obtain⟨Z,F,A⟩:=aT c;obtain⟨vs,C,n⟩:=aT m;obtain⟨yv,H,D⟩:=aT C;obtain⟨b,hb,rfl⟩:=bK n;obtain⟨j,I,J,N⟩:=SP Q;refine bA.pure λB k a w f S=>⟨.bool (g !=b),?_,.d (RD.sc _)⟩
 unfold execOp;rw[z];refine fh ?_;rw[((bU f hp T F).key_eq (P:=P) A J).1,((bU f R U H).key_eq (P:=P) D J).1];have i:(Op.equal t (valC P t us) (valC P t vs)).run P w= .ok b w:=Bf 12 10000 t ks a8 I w us vs b hb;rcases N with⟨e,O⟩|e
 .obtain⟨xs,E⟩: ∃xs,valC P t us= .agg xs:=by
   unfold dv at e;unfold Bb.valC;split at e
   .rename_i c;rw[c];exact⟨_,rfl⟩
   .rename_i c;rw[c];exact⟨_,rfl⟩
   .cases e
  obtain⟨ys,G⟩: ∃xs,valC P t vs= .agg xs:=by
   unfold dv at e;unfold Bb.valC;split at e
   .rename_i c;rw[c];exact⟨_,rfl⟩
   .rename_i c;rw[c];exact⟨_,rfl⟩
   .cases e
  rw[E,G]at i⊢;cases l<;>simp[Bd]at j<;>subst j<;>simp[eqGuard,binOp,Op.stringOp,bP,O,i,Result.andThen,go_sem]
 .have r:ks=[.b]:=by
   have:=I;unfold dU at this;rw[e]at this;dsimp only at this;split at this
   .exact(aJ this).symm
   .cases this
  subst r;obtain⟨V,W⟩:=sF hb
  match us,vs,V,W,hb,i with
  |[u],[v],_,_,hb,i=>
   have c:valC P t [u]=u:=by unfold Bb.valC;rw[e];rfl
   have C:valC P t [v]=v:=by unfold Bb.valC;rw[e];rfl
   rw[c,C]at i⊢;unfold bJ at hb;split at hb<;>first|(cases hb;done)|skip
   all_goals first
    |(rename_i K L M;cases K;done)
    |(rename_i K L M;cases L;cases M;cases l<;>simp[Bd]at j<;>subst j<;>simp[eqGuard,binOp,bP,i,Result.andThen,go_sem])
theorem U5{t:TypeId}{p:Operand}{x:X}(g:o.op= .unOp .not t p)(j:cX P 0 p=some x)(h:(CI.not x).sem fr s=some (d,s')):bA LL P o fr s d s':=by
 have hp:p∈o.op.operands:=by rw[g];simp[Op.operands]
 obtain⟨hc,rfl⟩:=eh h;obtain⟨b,hb,rfl⟩:=bK hc;obtain⟨l,f,e⟩:=aT hb;refine bA.pure λB k a w c i=>⟨.bool !b,?_,.d (RD.sc _)⟩
 unfold execOp;rw[g];refine fh ?_;rw[(bU c hp j f).sc_eq (AV.bool_sc e)];simp[Op.unary]
theorem sv{α:Type}(sz:Nat): ∀(n:Nat) (l:List α),(chunk sz n l).length=n
 |0,_=>rfl
 |n+1,l=>by simp[chunk,sv sz n]
theorem uh{α:Type}(sz:Nat): ∀(n:Nat) (l:List α),l.length=n*sz->(chunk sz n l).flatten=l/\ ∀r∈chunk sz n l,r.length=sz
 |0,l,h=>by
  obtain rfl:l=[]:=gV (by simpa using h);exact⟨rfl,by simp[chunk]⟩
 |n+1,l,h=>by
  rw[fQ]at h;obtain⟨b,c⟩:=uh sz n (l.drop sz) (by simp;omega);refine⟨by rw[chunk,gG,b,jV],λr a=> ?_⟩;rw[chunk]at a;rcases bF.1 a with rfl|a
  .simp;omega
  .exact c r a
theorem KH{j:UnOp}{t:TypeId}{p:Operand}{x:X}(i:o.op= .unOp j t p)(m:cX P 0 p=some x)(h:(CI.un j x).sem fr s=some (d,s')):bA LL P o fr s d s':=by
 have hp:p∈o.op.operands:=by rw[i];simp[Op.operands]
 obtain⟨hc,rfl⟩:=eh h;obtain⟨u,hb,f⟩:=aT hc;obtain⟨n,g,e⟩:=aT hb;obtain⟨r,c,rfl⟩:=bK f;refine bA.pure λB k a w b l=>⟨r,?_,.d (RD.sc _)⟩
 unfold execOp;rw[i];refine fh ?_;rw[(bU b hp m g).sc_eq e];unfold zL at c;split at c
 .obtain rfl:=aJ c;simp[Op.unary,Op.intArith,go_sem]
 .obtain rfl:=aJ c;simp[Op.unary,Op.intBits,go_sem]
 .cases c
theorem Y8{k:aP}{w:World}{v:Value}{x:AV}{b:Bool}(h:RA k w v x)(hb:nD x=some b): ∃a n c,v= .slice a n c/\(b=true->a=none)/\(b=false-> ∃e,a=some e):=by
 have d: ∀{sz:Nat} {r:List D} {rows:List (List D)},RD k.I w v (.sl sz (r::rows))-> ∃a n c,v= .slice a n c/\(false=true->a=none)/\(false=false-> ∃e,a=some e):=λh=>by
  obtain⟨a,c,us,rfl,i,j,l,m,f⟩:=h.sl_inv;obtain⟨b,off,ha,_⟩:=f (by simp);exact⟨a,_,c,rfl,λh=>Bool.noConfusion h,λ_=>⟨_,ha⟩⟩
 unfold nD at hb;split at hb
 .cases hb;rw[h.nil_inv];exact⟨none,0,0,rfl,λ_=>rfl,λh=>Bool.noConfusion h⟩
 .cases hb;obtain⟨b,c,hb,g,_,_⟩:=h.win_inv;exact⟨_,_,c,g,λh=>Bool.noConfusion h,λ_=>⟨_,rfl⟩⟩
 .cases hb;exact d h.d_inv
 .cases hb;exact d h.tsl_inv.1
 .cases hb
theorem TU{r:BinOp}{t H:TypeId}{p q:Operand}{x:X}{i:Bool}(m:o.op= .binOp r t p q H)(g:ER P r t q=some i)(G:cX P t p=some x)(h:(CI.isn i x).sem fr s=some (d,s')):bA LL P o fr s d s':=by
 have hp:p∈o.op.operands:=by rw[m];simp[Op.operands]
 obtain⟨hc,rfl⟩:=eh h;obtain⟨b,hb,rfl⟩:=bK hc;obtain⟨v,F,l⟩:=aT hb;unfold ER at g;split at g
 .rename_i e E;refine bA.pure λB k a w j D=>⟨.bool (i !=b),?_,.d (RD.sc _)⟩
  obtain⟨u,n,c,A,y,z⟩:=Y8 (bU j hp G F) l;unfold execOp;rw[m];refine fh ?_;have C:a.eval (.const (.slice none 0 0))= .slice none 0 0:=rfl;have f:(Op.equal t (.slice u n c) (.slice none 0 0)).run P w= .ok b w:=by
   show(Op.equalIn (9999+1) t _ _).run P w=_;unfold Op.equalIn;simp only[bP,run_underlying E,bV];cases b with
   |true=>rw[y rfl];rfl
   |false=>obtain⟨a0,rfl⟩:=z rfl;rfl
  rw[A,C];split at g
  .obtain rfl:=aJ g;simp only[eqGuard,binOp,bP,f,bV,cJ];simp[cJ,bP,bV,f]
  .obtain rfl:=aJ g;simp only[eqGuard,binOp,bP,f,bV,cJ];simp[cJ,bP,bV,f]
  .cases g
 .cases g
theorem KF{mx:Bool}{p q:Operand}{t z:TypeId}{x y:X}(f:o.op= .call {callee:= .builtin (if mx then .max else .min),args:= #[p,q],argTypes:= #[t,z]})(D:cX P t p=some x)(E:cX P z q=some y)(h:(CI.mm mx x y).sem fr s=some (d,s')):bA LL P o fr s d s':=by
 have hp:p∈o.op.operands:=by rw[f];simp[Op.operands,Call.operands]
 have A:q∈o.op.operands:=by rw[f];simp[Op.operands,Call.operands]
 obtain⟨hc,rfl⟩:=eh h;obtain⟨u,g,hc⟩:=aT hc;obtain⟨J,j,g⟩:=aT g;obtain⟨v,i,hc⟩:=aT hc;obtain⟨K,l,i⟩:=aT i;obtain⟨r,c,rfl⟩:=bK hc;refine bA.pure λB k a w b C=>⟨r,?_,.d (RD.sc _)⟩
 unfold execOp;rw[f];unfold Kl at c;split at c
 .rename_i F H G I;split at c
  .rename_i e;subst e;obtain rfl:=aJ c;have m:=(bU b hp D j).sc_eq g;have n:=(bU b A E l).sc_eq i;cases mx
   .simp[resolve,invoke,builtin,Builtin.min_,Builtin.min2,m,n,bP,cJ,bV]
   .simp[resolve,invoke,builtin,Builtin.max_,Builtin.max2,m,n,bP,cJ,bV]
  .cases c
 .cases c
theorem CE{I:Nat->Nat}{w:World}{v:Value}{sz:Nat}{rows:List (List D)}(h:RD I w v (.sl sz rows)): ∃a c,v= .slice a rows.length c:=by
 obtain⟨a,c,us,b,_⟩:=h.sl_inv;exact⟨a,c,b⟩
def SQ(P:Program)(t:TypeId)(kd:Nat):Prop:=match kd with
 |0=> ∃e,P.underlying t=some (.slice e)
 |1=>P.underlying t=some .string
 |2=> ∃k e,P.underlying t=some (.map k e)
 |_=>False
theorem EU{t:TypeId}{kd:Nat}{p:Operand}{x:X}(y:o.op= .call {callee:= .builtin .len,args:= #[p],argTypes:= #[t]})(r:SQ P t kd)(N:cX P t p=some x)
  (h:(CI.len kd x).sem fr s=some (d,s')):bA LL P o fr s d s':=by
 have hp:p∈o.op.operands:=by rw[y];simp[Op.operands,Call.operands]
 obtain⟨hc,rfl⟩:=eh h;obtain⟨v,M,C⟩:=aT hc;obtain⟨n,g,rfl⟩:=bK C;refine bA.pure λB k a w z E=>⟨.int .i64 n,?_,.d (RD.sc _)⟩
 have l:=bU z hp N M;have q: ∀(i:Option Addr) (m c:Nat),kd=0->a.eval p= .slice i m c->n=m->(execOp a.eval o).run P w= .ok (.value (.int .i64 n)) w:=λi m c h0 A L=>by
  subst h0;subst L;obtain⟨e,r⟩:=r;unfold execOp;rw[y];simp only[resolve,invoke,builtin,bP,cJ,bV,tU,bX,fi,A];simp[Builtin.len_,run_underlying r,goInt]
 unfold gr at g;split at g
 .obtain rfl:=aJ g;obtain⟨i,c,f⟩:=CE l.d_inv;exact q i _ c rfl f rfl
 .obtain rfl:=aJ g;obtain⟨i,c,f⟩:=CE l.tsl_inv.1;exact q i _ c rfl f rfl
 .obtain rfl:=aJ g;exact q none 0 0 rfl l.nil_inv rfl
 .obtain rfl:=aJ g;obtain⟨i,A⟩:=l.emp_inv;exact q i 0 0 rfl A rfl
 .obtain rfl:=aJ g;obtain⟨⟨i,c,f⟩,_⟩:=l.vec_inv;exact q i _ c rfl f rfl
 .obtain rfl:=aJ g;obtain⟨b,c,_,f,_⟩:=l.win_inv;exact q _ _ c rfl f rfl
 .obtain rfl:=aJ g;obtain⟨⟨i,c,f⟩,_⟩:=l.vwn_inv;exact q i _ c rfl f rfl
 .obtain rfl:=aJ g;rename_i b;have j:P.underlying t=some .string:=r;unfold execOp;rw[y];simp only[resolve,invoke,builtin,bP,cJ,bV,tU,bX,fi,l.sc_eq (u:= .string b) rfl];simp[Builtin.len_,run_underlying j,goInt]
 .rename_i id;obtain⟨ag,es,D,rfl⟩:=Kc g;obtain⟨kt,et,j⟩:=r;obtain⟨b,hb,F⟩:=l.mp_inv;obtain⟨O,G,I,H,J,K,_⟩:=E.map D;rw[hb]at H;cases H;unfold execOp;rw[y];simp only[resolve,invoke,builtin,bP,cJ,bV,tU,bX,fi,F];simp[Builtin.len_,run_underlying j,goInt,getObj,Sem.run,J,K.1]
 .obtain rfl:=aJ g;obtain⟨kt,et,j⟩:=r;unfold execOp;rw[y];simp only[resolve,invoke,builtin,bP,cJ,bV,tU,bX,fi,l.sc_eq (u:= .map none) rfl];simp[Builtin.len_,run_underlying j,goInt]
 .cases g
theorem Hl{k:aP}{w:World}{a:Act}(c:jX k w a o fr){q:Option Operand}(g: ∀p,q=some p->p∈o.op.operands){y:Option X}(d:kJ P 0 q=some y){b:Nat}{n:Int}(e:pM fr b y=some n):
  (q=none/\n=b)\/ ∃p,q=some p/\a.eval p= .int .i64 n:=by
 cases q with
 |none=>simp[kJ]at d;subst d;simp[pM]at e;exact .inl ⟨rfl,e.symm⟩
 |some p=>
  unfold kJ at d;obtain⟨x,i,rfl⟩:=dy.1 d;obtain⟨v,h,f⟩:=aT e;exact .inr ⟨p,rfl,(bU c (g p rfl) i h).sc_eq (AV.int_sc f)⟩
theorem PU{k:aP}{w:World}{a:Act}(b:jX k w a o fr){q:Option Operand}(f: ∀p,q=some p->p∈o.op.operands){y:Option X}(c:kJ P 0 q=some y){n:Option Int}(d:pN fr y=some n):
  (q=none/\n=none)\/ ∃p m,q=some p/\n=some m/\a.eval p= .int .i64 m:=by
 cases q with
 |none=>simp[kJ]at c;subst c;simp[pN]at d;exact .inl ⟨rfl,d.symm⟩
 |some p=>
  unfold kJ at c;obtain⟨x,h,rfl⟩:=dy.1 c;obtain⟨m,hm,rfl⟩:=bK d;obtain⟨v,g,e⟩:=aT hm;exact .inr ⟨p,m,rfl,rfl,(bU b (f p rfl) h g).sc_eq (AV.int_sc e)⟩
theorem FY{w:World}{k:aP}{a:Act}(c:jX k w a o fr){lo hi:Option Operand}(d: ∀q,lo=some q->q∈o.op.operands)(f: ∀q,hi=some q->q∈o.op.operands){l p:Option X}(s:kJ P 0 lo=some l)(y:kJ P 0 hi=some p){n:Int}{e:Option Int}(t:pM fr 0 l=some n)(hm:pN fr p=some e)
  (g:Bool) {len cap:Nat} (r:len<=cap) (v:0<=n) (j:n<=e.getD len) (x:e.getD len<=len):(Instr.sliceBounds g len cap (lo.map a.eval) (hi.map a.eval) none).run P w= .ok (n.toNat,(e.getD len).toNat,cap) w:=by
 have r2: ∀m b,n<=(m:Nat)->(Instr.sliceBound (.int .i64 n) m b).run P w= .ok n.toNat w:=λm b h=>run_sliceBound w .i64 n m _ v h;rcases PU c f y hm with⟨rfl,rfl⟩|⟨q,m,rfl,rfl,he⟩
 .rcases Hl c d s t with⟨rfl,rfl⟩|⟨q',rfl,he'⟩
  .simp[Instr.sliceBounds]
  .have i: ∀b,(Instr.sliceBound (.int .i64 n) len b).run P w= .ok n.toNat w:=λb=>r2 len b (by simpa using j);simp[Instr.sliceBounds,he',i]
 .simp only[eF]at j x⊢;have u: ∀b,(Instr.sliceBound (.int .i64 m) cap b).run P w= .ok m.toNat w:=λb=>run_sliceBound w .i64 m cap _ a8 a8;have i: ∀b,(Instr.sliceBound (.int .i64 n) m.toNat b).run P w= .ok n.toNat w:=λb=>r2 m.toNat b a8;rcases Hl c d s t with⟨rfl,rfl⟩|⟨q',rfl,he'⟩
  .simp[Instr.sliceBounds,he,u]
  .simp[Instr.sliceBounds,he,he',u,i]
theorem Ub{t e:TypeId}{j:TypeInfo}{p:Operand}{lo hi:Option Operand}{x:X}{l h2:Option X}(ho:o.op= .slice t p lo hi none)(hu:P.underlying t=some (.slice e))(hj:P.info? e=some j)(hx:cX P 0 p=some x)(hl:kJ P 0 lo=some l)(hh:kJ P 0 hi=some h2)
  (h:(CI.slc j.size x l h2).sem fr s=some (d,s')):bA LL P o fr s d s':=by
 have hp:p∈o.op.operands:=by rw[ho];simp[Op.operands]
 have a7: ∀q,lo=some q->q∈o.op.operands:=λq hq=>by rw[ho,hq];simp[Op.operands]
 have a5: ∀q,hi=some q->q∈o.op.operands:=λq hq=>by rw[ho,hq];simp[Op.operands]
 obtain⟨hc,rfl⟩:=eh h;obtain⟨v,hv,a2⟩:=aT hc;obtain⟨n,hn,a3⟩:=aT a2;obtain⟨mo,hm,G⟩:=aT a3;refine bA.pure λB k a w I Z=> ?_;have hr:=bU I hp hx hv;have r: ∀(U:Option Addr) (len c:Nat),a.eval p= .slice U len c->len<=c->0<=n->n<=mo.getD len->mo.getD len<=len->
   (execOp a.eval o).run P w= .ok (.value (.slice (if c=n.toNat then U else U.map (·.add (n.toNat*j.size))) ((mo.getD len).toNat-n.toNat) (c-n.toNat))) w:=λU len c h1 a1 A C D=>by
  have hb:=FY (P:=P) (w:=w) I a7 a5 hl hh hn hm true a1 A C D;unfold execOp;rw[ho];refine fh ?_;simp only[Instr.sliceAt,Instr.slice,h1,qR,bP,run_underlying hu,bV,hb,sizeOf,typeInfo,run_program,hj,cJ]
 have H: ∀(b off c:Nat),¬c=n.toNat->(if c=n.toNat then(some (⟨b,off,none⟩:Addr))else Option.map (λx=>Addr.add x (n.toNat*j.size)) (some ⟨b,off,none⟩))=some ⟨b,off+n.toNat*j.size,none⟩:=λb off c hne=>by
  rw[if_neg hne];simp only[eY,fW]
 unfold qp at G;split at G
 .rename_i id m a0;obtain⟨⟨sz,ds⟩,K,f⟩:=aT G;obtain⟨e',M,T,z⟩:=jo K;dsimp only at f;split at f
  .rename_i i;obtain⟨⟨rfl,rfl,c0⟩,A,C,D⟩:=i;obtain rfl:=aJ f;obtain⟨_,u,n',hk,a6,L⟩:=hr.vec_inv;obtain⟨u2,n2,xs,J,g2,g3,V,g5⟩:=Z.vec M;rw[hk]at J;cases J;have O:m=n':=by
    rw[z]at V;exact mf T V
   subst O;rcases g2.2 with⟨_,h9⟩|⟨g,cap,cur,y,_,_,Q,Y,_⟩
   .omega
   .have F:=(L rfl).trans y;refine⟨_,r _ m cap F Q A C D,?_⟩;unfold maxLen at Y;rw[H g 0 cap a8,aw];exact .vwn ⟨_,_,rfl⟩ ⟨u,m,hk,bg _,λ_=>⟨g,_,by rw[y];congr 1;omega,rfl,by omega,by omega⟩⟩
  .cases f
 .rename_i id N off m a0;obtain⟨⟨sz,ds⟩,K,f⟩:=aT G;obtain⟨e',M,T,z⟩:=jo K;dsimp only at f;split at f
  .rename_i i;obtain⟨⟨rfl,rfl,c0⟩,A,C,D⟩:=i;obtain rfl:=aJ f;obtain⟨_,u,n',hk,a6,L⟩:=hr.vwn_inv;obtain⟨u2,n2,xs,J,g2,g3,V,g5⟩:=Z.vec M;rw[hk]at J;cases J;have O:N=n':=by
    rw[z]at V;exact mf T V
   subst O;obtain⟨b,c,a9,y,Q,Y⟩:=L rfl;refine⟨_,r _ m c y Q A C D,?_⟩;rw[H b (off*j.size) c a8,<-fQ];exact .vwn ⟨_,_,rfl⟩ ⟨u,N,hk,bg _,λ_=>⟨b,_,by rw[a9];congr 1;omega,rfl,by omega,by omega⟩⟩
  .cases f
 .rename_i id off m a0;split at G
  .rename_i i;obtain⟨⟨rfl,c0⟩,A,C,D⟩:=i;obtain rfl:=aJ G;obtain⟨b,c,hb,y,J,g2⟩:=hr.win_inv;refine⟨_,r _ m c y J A C D,?_⟩;have a4: ¬c=n.toNat:=by omega
   rw[if_neg a4];have:Option.map (λx=>Addr.add x (n.toNat*j.size)) (some (⟨b,off,none⟩:Addr))=some ⟨b,off+n.toNat*j.size,none⟩:=by
    simp only[eY,fW]
   rw[this];exact .win hb a8 a8
  .cases G
 .obtain⟨rows,S,f⟩:=aT G;split at f
  .rename_i i;obtain⟨A,C,D⟩:=i;obtain rfl:=aJ f;have E:=hr.slA S;obtain⟨U,c,F⟩:=CE E;rw[F]at E;have R:=E.sl_part (lo:=n.toNat) (hi:=(mo.getD rows.length).toNat) a8 a8;have W:rows.length<=c:=by
    obtain⟨a',c',us,e1,_,e3,_⟩:=E.sl_inv;cases e1;exact e3
   exact⟨_,r U rows.length c F W A C D,.d R⟩
  .cases f
theorem Ud{t e:TypeId}{j:TypeInfo}{p m:Operand}{lo hi:Option Operand}{x:X}(A:o.op= .slice t p lo hi (some m))(C:(isZero m&&hi.any isZero&&lo.all isZero)=true)(I:P.underlying t=some (.slice e))(G:P.info? e=some j)(K:cX P 0 p=some x)
  (h:(CI.slz j.size x).sem fr s=some (d,s')):bA LL P o fr s d s':=by
 have hp:p∈o.op.operands:=by rw[A];simp[Op.operands]
 obtain⟨hc,rfl⟩:=eh h;obtain⟨v,J,i⟩:=aT hc;obtain⟨rows,f,rfl⟩:=bK i;refine bA.pure λB k a w g H=> ?_;obtain⟨E,c,r⟩:=CE ((bU g hp K J).slA f);have z: ∀q:Operand,isZero q=true->a.eval q= .int .i64 0:=λq l=>by
  unfold isZero at l;split at l
  .rfl
  .cases l
 simp only[dW]at C;obtain⟨⟨L,z2⟩,z3⟩:=C;cases hi with
 |none=>simp at z2
 |some hi=>
  have u:=z m L;have y:=z hi (by simpa using z2);have D: ∀(n:Nat) b,(Instr.sliceBound (.int .i64 0) n b).run P w= .ok 0 w:=λn b=>by
   have:=run_sliceBound (P:=P) w .i64 0 n b a8 a8;simpa using this
  refine⟨.slice E 0 0,?_,.emp⟩;have hb:(Instr.sliceBounds true rows.length c (lo.map a.eval) (some (a.eval hi)) (some (a.eval m))).run P w= .ok (0,0,0) w:=by
   cases lo with
   |none=>simp[Instr.sliceBounds,u,y,D]
   |some lo=>
    have F:=z lo (by simpa using z3);simp[Instr.sliceBounds,u,y,F,D]
  unfold execOp;rw[A];refine fh ?_;simp only[Instr.sliceAt,Instr.slice,r,eY,bP,run_underlying I,bV,hb,sizeOf,typeInfo,run_program,G,cJ,if_true,jc]
theorem KG{t e:TypeId}{n:Nat}{j:TypeInfo}{p:Operand}{lo hi:Option Operand}{x:X}{l G:Option X}(H:o.op= .slice t p lo hi none)(E:P.underlying t=some (.array n e)\/ ∃A,P.underlying t=some (.pointer A)/\P.underlying A=some (.array n e))(Y:P.info? e=some j)(hx:cX P 0 p=some x)(hl:kJ P 0 lo=some l)(hh:kJ P 0 hi=some G)
  (a0:n<=9223372036854775807) (h:(CI.sla n j.size x l G).sem fr s=some (d,s')):bA LL P o fr s d s':=by
 have hp:p∈o.op.operands:=by rw[H];simp[Op.operands]
 have O: ∀q,lo=some q->q∈o.op.operands:=λq S=>by rw[H,S];simp[Op.operands]
 have N: ∀q,hi=some q->q∈o.op.operands:=λq S=>by rw[H,S];simp[Op.operands]
 obtain⟨hc,rfl⟩:=eh h;obtain⟨v,hv,J⟩:=aT hc;obtain⟨m,hm,K⟩:=aT J;obtain⟨z,Q,r⟩:=aT K;have F: ∀{k:aP} {a:Act} {w:World} (b off:Nat),jX k w a o fr->a.eval p= .pointer (some ⟨b,off,none⟩)->(m<n/\0<=m/\m<=z.getD n/\z.getD n<=n)->
   (execOp a.eval o).run P w= .ok (.value (.slice (some ⟨b,off+m.toNat*j.size,none⟩) ((z.getD n).toNat-m.toNat) (n-m.toNat))) w:=by
  intro k a w b off c y f;obtain⟨c0,U,V,W⟩:=f;have C:=FY (P:=P) (w:=w) c O N hl hh hm Q false (len:=n) (cap:=n) (bg _) U V W;have hne: ¬n=m.toNat:=by omega
  unfold execOp;rw[H];refine fh ?_;rcases E with E|⟨A,E,hua⟩
  .simp only[Instr.sliceAt,Instr.sureAddr,y,qR,bP,run_underlying E,bV,C,sizeOf,typeInfo,run_program,Y,cJ,if_neg hne,fW]
  .simp only[Instr.sliceAt,Instr.slice,y,qR,bP,run_underlying E,run_underlying hua,bV,asAddr,C,sizeOf,typeInfo,run_program,Y,cJ,if_neg hne,fW]
 unfold zn at r;split at r
 .rename_i id off;split at r
  .rename_i f;obtain rfl:=aJ r;refine bA.pure λB k a w c T=> ?_;obtain⟨b,hb,y⟩:=(bU c hp hx hv).ptr_inv;exact⟨_,F b off c y f,.win hb a8 a8⟩
  .cases r
 .rename_i ds;split at r
  .rename_i f;obtain⟨f,Z⟩:=f;obtain rfl:=aJ r;refine bA.pure λB k a w c T=> ?_;have hr:=(bU c hp hx hv).d_inv;generalize R:a.eval p=pv at hr;cases hr with
   |ref b off us _ h1 G h3 h4=>
    refine⟨_,F b off c R f,.d ?_⟩;obtain⟨c0,U,V,W⟩:=f;have h5:dA k.I w ((us.drop (m.toNat*j.size)).take (((z.getD n).toNat-m.toNat)*j.size)) ((ds.drop (m.toNat*j.size)).take (((z.getD n).toNat-m.toNat)*j.size)):=(dA.drop ⟨h1,G,h4⟩ _).take _;have D:((ds.drop (m.toNat*j.size)).take (((z.getD n).toNat-m.toNat)*j.size)).length=((z.getD n).toNat-m.toNat)*j.size:=by
     have h6:m.toNat*j.size+((z.getD n).toNat-m.toNat)*j.size<=n*j.size:=by
      rw[<-fQ];exact jI _ a8
     simp;omega
    obtain⟨L,M⟩:=uh j.size _ _ D;refine RD.sl_mk (sv ..) M a8 a8 (by rw[L];exact h5) λ_=>⟨b,_,rfl,λi u g=> ?_⟩
    rw[fL]at g;split at g
    .rw[gf]at g;rw[lq];exact h3 _ u g
    .cases g
  .cases r
 .cases r
theorem Uc{t:TypeId}{p:Operand}{lo hi:Option Operand}{x:X}{l C:Option X}(g:o.op= .slice t p lo hi none)(J:P.underlying t=some .string)(L:cX P 0 p=some x)(H:kJ P 0 lo=some l)(G:kJ P 0 hi=some C)
  (h:(CI.sls x l C).sem fr s=some (d,s')):bA LL P o fr s d s':=by
 have hp:p∈o.op.operands:=by rw[g];simp[Op.operands]
 have y: ∀q,lo=some q->q∈o.op.operands:=λq A=>by rw[g,A];simp[Op.operands]
 have u: ∀q,hi=some q->q∈o.op.operands:=λq A=>by rw[g,A];simp[Op.operands]
 obtain⟨hc,rfl⟩:=eh h;obtain⟨b,hb,j⟩:=aT hc;obtain⟨v,K,i⟩:=aT hb;obtain⟨m,hm,n⟩:=aT j;obtain⟨M,z,f⟩:=aT n;unfold FL at f;split at f
 .rename_i r;obtain⟨D,E,F⟩:=r;obtain rfl:=aJ f;refine bA.pure λB k a w c I=>⟨_,?_,.d (RD.sc _)⟩
  have e:=FY (P:=P) (w:=w) c y u H G hm z false (len:=b.size) (cap:=b.size) (bg _) D E F;unfold execOp;rw[g];refine fh ?_;simp only[Instr.sliceAt,Instr.slice,(bU c hp L K).sc_eq (AV.str_sc i),qR,bP,run_underlying J,bV,e,cJ];simp;rw[e];rfl
 .cases f
theorem TK{c dst:TypeId}{k k':IntKind}{p:Operand}{x:X}(g:o.op= .convert c dst p)(i:P.underlying c=some (.int k'))(j:P.underlying dst=some (.int k))(r:cX P c p=some x)(h:(CI.cnv k x).sem fr s=some (d,s')):bA LL P o fr s d s':=by
 have hp:p∈o.op.operands:=by rw[g];simp[Op.operands]
 obtain⟨hc,rfl⟩:=eh h;obtain⟨u,m,b⟩:=aT hc;obtain⟨v,q,f⟩:=aT m;split at b
 .rename_i y n;obtain rfl:=aJ b;refine bA.pure λB t a w e l=>⟨.int k (k.wrap n),?_,.d (RD.sc _)⟩
  unfold execOp;rw[g];refine fh ?_;simp only[convert,bP,run_underlying i,run_underlying j,bV,(bU e hp r q).sc_eq f,Conv.intToInt,cJ]
 .cases b
theorem HF: ∀{ts:List TypeId} {ps:List Operand} {xs:List X},je P ts ps=some xs-> ∀(i:Nat) (x:X),xs[i]?=some x-> ∃p t,ps[i]?=some p/\cX P t p=some x
 |_,[],xs,h=>by simp[je]at h;subst h;simp
 |ts,p::ps,xs,h=>by
  unfold je at h;split at h
  .rename_i x d b c;obtain rfl:=aJ h;intro i y a;cases i with
   |zero=>simp at a;subst a;exact⟨p,_,rfl,b⟩
   |succ i=>exact HF c i y (by simpa using a)
  .cases h
theorem HE: ∀{ts:List TypeId} {ps:List Operand} {xs:List X},je P ts ps=some xs->xs.length=ps.length
 |_,[],xs,h=>by simp[je]at h;subst h;rfl
 |ts,p::ps,xs,h=>by
  unfold je at h;split at h
  .rename_i x b c a;obtain rfl:=aJ h;simp[HE a]
  .cases h
theorem IK: ∀{xs:List X} {vs:List AV},jN fr xs=some vs->vs.length=xs.length/\ ∀(i:Nat) (v:AV),vs[i]?=some v-> ∃x,xs[i]?=some x/\x.ev fr=some v
 |[],vs,h=>by simp[jN]at h;subst h;simp
 |x::xs,vs,h=>by
  obtain⟨v,d,b⟩:=aT (show((x.ev fr).bind λv=>(jN fr xs).map (v:: ·))=some vs from h);obtain⟨g,c,rfl⟩:=bK b;obtain⟨e,f⟩:=IK c;refine⟨by simp[e],λi y a=> ?_⟩;cases i with
  |zero=>simp at a;subst a;exact⟨x,rfl,d⟩
  |succ i=>exact f i y (by simpa using a)
theorem Bg{k:aP}{w:World}{a:Act}(b:jX k w a o fr){ts:List TypeId}{ps:List Operand}{xs:List X}(g:je P ts ps=some xs)(d: ∀p∈ps,p∈o.op.operands){vs:List AV}(m:jN fr xs=some vs):fU k w (ps.map a.eval) vs:=by
 obtain⟨n,q⟩:=IK m;refine⟨by simp[n,HE g],λi u c f hc=> ?_⟩;obtain⟨x,h,j⟩:=q i c hc;obtain⟨p,t,e,l⟩:=HF g i x h;rw[dj,e]at f;obtain rfl:=aJ f;exact bU b (d p (bR e)) l j
theorem TY{f:FuncId}{ps j:Array Operand}{xs n:List X}(e:o.op= .makeFunc (.func f) ps j)(t:je P [] ps.toList=some xs)(u:je P [] j.toList=some n)(h:(CI.mkf f xs n).sem fr s=some (d,s')):bA LL P o fr s d s':=by
 obtain⟨hc,rfl⟩:=eh h;obtain⟨us,g,c⟩:=aT hc;obtain⟨vs,i,rfl⟩:=bK c;refine bA.pure λB k a w b r=> ?_;have l:=Bg b t (λp hp=>by rw[e];simp only[Op.operands];simp at hp⊢;exact .inl hp) g;have m:=Bg b u (λp hp=>by rw[e];simp only[Op.operands];simp at hp⊢;exact .inr hp) i
 refine⟨.func (.func f) (ps.toList.map a.eval).toArray (j.toList.map a.eval).toArray,?_,.clo l.1 m.1 l.2 m.2⟩;unfold execOp;rw[e];refine fh ?_;have q: ∀(ps:Array Operand),ps.map a.eval=(ps.toList.map a.eval).toArray:=λps=>by apply Array.ext';simp
 simp only[Instr.makeFunc,q,cJ]
theorem D0{t:TypeId}{us:List Value}(b: ∀u∈us,u.oneCell'=true)(k:aP)(w:World):bZ k w us (pz P t us):=by
 refine⟨by simp[pz,AG],b,λi u d e c=> ?_⟩;obtain⟨v,f,a,rfl⟩:=AF c;rw[e]at a;obtain rfl:=aJ a;exact AE ..
theorem Jh: ∀(vs:List Value) (j off:Nat) (cs:Array Value),off+j+vs.length<=cs.size->((vs.zipIdx j).foldl (λ(cs:Array Value) (x:Value×Nat)=>cs.setIfInBounds (off+x.2) x.1) cs).toList=cs.toList.take (off+j)++vs++cs.toList.drop (off+j+vs.length)
 |[],j,off,cs,h=>by simp
 |v::vs,j,off,cs,h=>by
  simp only[aY]at h;rw[List.zipIdx_cons,ig,Jh vs (j+1) off _ (by simp;omega)];have a:off+j<cs.toList.length:=by simp;omega
  rw[Array.toList_setIfInBounds];refine gW λi=> ?_;simp only[bk,jb,fL,gf,fB,cC,jU,aY,List.getElem?_cons,aQ]
  repeat' split
  all_goals first
   |rfl
   |omega
   |(congr 1;omega)
   |(exfalso;omega)
   |(simp_all;done)
   |(rename_i b c d;simp at*;omega)
theorem Bj{k:aP}{w:World}{a:Act}(g:jX k w a o fr){e:Nat->Option (Nat×Nat)}{F:Nat->TypeId}: ∀{ps:List (Nat×Operand)} {q:List (Nat×Nat×X)} {b:Array Value} {cs f:List AV},
  sr P e F ps=some q->(∀x∈ps,x.2∈o.op.operands)->bZ k w b.toList cs->lF fr cs q=some f->
  ∃d,Instr.fill e b (ps.map λx=>(x.1,a.eval x.2))=some d/\bZ k w d.toList f
 |[],q,b,cs,f,j,_,h3,h4=>by
  simp[sr]at j;subst j;simp[lF]at h4;subst h4;exact⟨b,rfl,h3⟩
 |(i,p)::ps,q,b,cs,f,j,h2,h3,h4=>by
  unfold sr at j;split at j
  .rename_i off size x l' v y z;obtain rfl:=aJ j;unfold lF at h4;obtain⟨vs,u,r⟩:=aT h4;split at r
   .rename_i C;obtain⟨c,s,t⟩:=aT u;have hcells:=(bU g (h2 (i,p) (by simp)) y s).cells t;have m:(a.eval p).cells.size=size:=by have:=hcells.1;simp at this;omega
    have D:b.size=cs.length:=by have:=h3.1;simpa using this
    have h:=Jh (a.eval p).cells.toList 0 off b (by simp[m];omega);simp only[aB,ic,m]at h;have n:bZ k w ((((a.eval p).cells.toList.zipIdx 0).foldl (λ(cs:Array Value) (x:Value×Nat)=>cs.setIfInBounds (off+x.2) x.1) b)).toList (cs.take off++vs++cs.drop (off+size)):=by
     rw[h];exact((h3.take off).append hcells).append (h3.drop _)
    obtain⟨d,A,B⟩:=Bj g z (λx E=>h2 x (by simp[E])) n r;refine⟨d,?_,B⟩;have l:((decide ((a.eval p).cells.size≠size))||decide (off+(a.eval p).cells.size>b.size))=false:=by simp[m];omega
    simp only[bX,Instr.fill,v,l,l7,if_false];rw[<-A];congr 1;rw[<-Array.foldl_toList];simp
   .cases r
  .cases j
theorem GC{k:aP}{w:World}{us:List Value}{l:List AV}(fz:Bool)(h:bZ k w us l):bZ k w us (zU fz l):=by
 unfold zU;split
 .exact h.datA
 .exact h
theorem TE{fz:Bool}{t:TypeId}{c:Array (Nat×Operand)}{z:List AV}{G:List (Nat×Nat×X)}(F:o.op= .build t c)(hc:vV P fz t c.toList=some (.bld z G))(h:(CI.bld z G).sem fr s=some (d,s')):bA LL P o fr s d s':=by
 obtain⟨H,rfl⟩:=eh h;obtain⟨r,q,rfl⟩:=bK H;have g: ∀x∈c.toList,x.2∈o.op.operands:=λx J=>by
  rw[F];simp only[Op.operands];simp;exact⟨x.1,by simpa using J⟩
 refine bA.pure λB k a w i I=> ?_;have key: ∃b,P.built t (c.toList.map λx=>(x.1,a.eval x.2))=some b/\bZ k w b.toList r:=by
  unfold vV at hc;split at hc
  .rename_i K L l m;split at hc
   .rename_i z0 places D A;split at hc
    .rename_i f;obtain⟨E,C,v⟩:=dy.1 hc;cases v;obtain⟨b,p,j⟩:=Bj (a:=a) i C g (GC fz (D0 (P:=P) (t:=t) (λu m=>rW.1 f u (by simpa using m)) k w)) q;exact⟨b,by unfold Program.built;simp only[l,m,D,A];exact p,j⟩
    .cases hc
   .cases hc
  .rename_i K n e l m;split at hc
   .rename_i z0 M D y;split at hc
    .rename_i f;obtain⟨E,C,v⟩:=dy.1 hc;cases v;obtain⟨b,p,j⟩:=Bj (a:=a) i C g (GC fz (D0 (P:=P) (t:=t) (λu m=>rW.1 f u (by simpa using m)) k w)) q;exact⟨b,by unfold Program.built;simp only[l,m,D,y];exact p,j⟩
    .cases hc
   .cases hc
  .cases hc
 obtain⟨b,p,j⟩:=key;refine⟨.agg b,?_,?_⟩
 .unfold execOp;rw[F];refine fh (run_build w t _ b ?_);rw[<-p];simp
 .have:b=b.toList.toArray:=by simp
  rw[this];exact RA.aggA (.agg j.1 j.2.1 j.2.2)
end
end Go.Bb
