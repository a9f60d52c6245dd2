/- Lemmas. -/
import Derived.Test.YtellfinifjmloaaGreatDoorPAB
import Derived.Laws.Tables
set_option linter.unusedVariables false
set_option linter.unusedSimpArgs false
namespace Go.Bb
open Go Go.RowKit Go.Ab
def jS(P:Program)(t:TypeId):Option (Option Nat):=
 match P.underlying t,P.info? t with
 |some d,some i=>some (if d.isRow then some i.size else none)
 |_,_=>none
theorem HC{P:Program}{t:TypeId}{n:Option Nat}(h:jS P t=some n): ∃d i,P.underlying t=some d∧P.info? t=some i∧n=(if d.isRow then some i.size else none):=by
 unfold jS at h;split at h
 ·rename_i d i a hi;exact⟨d,i,a,hi,(aJ h).symm⟩
 ·cases h
def xp(P:Program):Nat→TypeId→List TypeId
 |0,_=>[]
 |d+1,t=>match P.underlying t with
  |some (.struct fs)=>fs.toList.flatMap fun f=>xp P d f.type
  |some (.array n e)=>(List.range n).flatMap fun _=>xp P d e
  |_=>[t]
def cL(P:Program)(t:TypeId)(v:Value):AV:=
 match v with
 | .slice none 0 0=>match P.underlying t with
  |some (.slice e)=> .nil (P.cellsOf e)
  |_=> .nil 0
 |_=> .d (.sc v)
def cA(P:Program)(t:TypeId)(v:Value):Option AV:=
 match v with
 | .agg cs=>if cs.all (·.oneCell')then some (.agg (cs.toList.zipIdx.map fun(u,i)=>cL P ((xp P 12 t).getD i 0) u))else none
 |_=>some (cL P t v)
def cX(P:Program)(t:TypeId):Operand→Option X
 | .tmp n=>some (.t n)
 | .const v=>(cA P t v).map .c
 | .func f=>some (.c (.clo f [] []))
 |_=>none
def jv(P:Program)(t:TypeId):Option Operand→Option (Option X)
 |none=>some none
 |some p=>(cX P t p).map some
def jx(P:Program):List TypeId→List Operand→Option (List X)
 |_,[]=>some []
 |ts,p::l=>match cX P (ts.headD 0) p,jx P ts.tail l with
  |some x,some xs=>some (x::xs)
  |_,_=>none
theorem zq(P:Program)(t:TypeId)(u:Value)(k:aU)(w:World):RA k w u (cL P t u):=by
 unfold cL;split
 ·split<;>exact .nil
 ·exact .d (RD.sc _)
theorem zm{P:Program}{t:TypeId}{v:Value}{x:AV}(h:cA P t v=some x)(k:aU)(w:World):RA k w v x:=by
 unfold cA at h;split at h
 ·rename_i cs;split at h
  ·rename_i hc;obtain rfl:=aJ h;have b:cs=cs.toList.toArray:=by simp
   rw[b];refine .agg (us:=cs.toList) (by simp) (fun u c=> ?_) (fun i u d c a=> ?_)
   ·exact rX.1 hc u (by simpa using c)
   ·simp only[dL,List.getElem?_zipIdx,aw]at a;rw[c]at a;simp at a;subst a;exact zq ..
  ·cases h
 ·obtain rfl:=aJ h;exact zq P t v k w
theorem F5{P:Program}{t:TypeId}{p:Operand}{x:X}(h:cX P t p=some x){k:aU}{w:World}{a:Act}{fr:Fr}{d:AV}(b:x.ev fr=some d)
  (c: ∀u y,p= .tmp u→look fr u=some y→RA k w (a.tmps.getD u undef) y):RA k w (a.eval p) d:=by
 cases p with
 |tmp n=>
  simp[cX]at h;subst h;exact c n d rfl b
 |const v=>
  unfold cX at h;obtain⟨y,e,rfl⟩:=dt.1 h;obtain rfl:=aJ b;exact zm e k w
 |global g=>simp[cX]at h
 |func f=>
  simp[cX]at h;subst h;obtain rfl:=aJ b;exact .clo (us:=[]) (vs:=[]) rfl rfl (by simp) (by simp)
def qQ(P:Program)(a:Nat→Option (Nat×Nat))(b:Nat→TypeId):List (Nat×Operand)→Option (List (Nat×Nat×X))
 |[]=>some []
 |(i,p)::l=>match a i,cX P (b i) p,qQ P a b l with
  |some (off,size),some x,some l'=>some ((off,size,x)::l')
  |_,_,_=>none
def nC(P:Program)(t:TypeId)(us:List Value):List AV:=us.zipIdx.map fun(u,i)=>cL P ((xp P 12 t).getD (i % (xp P 12 t).length) 0) u
def yJ(fz:Bool)(l:List AV):List AV:=if fz then l.map datA else l
def uK(P:Program)(fz:Bool)(t:TypeId)(a:List (Nat×Operand)):Option CI:=
 match P.info? t,P.underlying t with
 |some it,some (.struct fs)=>match it.zero,fs.toList.mapM (fun f=>(P.info? f.type).map fun i=>(f.offset,i.size))with
  |some z,some places=>if z.cells.all (·.oneCell')then(qQ P (places.toArray[·]?) (fun i=>((fs[i]?).map (·.type)).getD 0) a).map (.bld (yJ fz (nC P t z.cells.toList)))else none
  |_,_=>none
 |some it,some (.array _ e)=>match it.zero,P.info? e with
  |some z,some ie=>if z.cells.all (·.oneCell')then(qQ P (fun i=>some (i*ie.size,ie.size)) (fun _=>e) a).map (.bld (yJ fz (nC P t z.cells.toList)))else none
  |_,_=>none
 |_,_=>none
def jd(z:Array Value)(n:Nat):Array Value:=(Array.range n).map (z[· % z.size]!)
def wO(P:Program)(fz mu:Bool)(t:TypeId)(n:Nat)(b:List (Nat×Operand)):Option CI:=
 match P.underlying t with
 |some (
    .slice e)=>match P.info? e with
  |some a=>match a.zero with
   |some z=>if 0<a.size∧n*a.size≤2^24∧(jd z.cells (n*a.size)).all (·.oneCell')=true then
    (qQ P (fun i=>some (i*a.size,a.size)) (fun _=>e) b).map fun c=>if fz then .bsf a.size n ((nC P e (jd z.cells (n*a.size)).toList).map datA) c else .bsl mu e a.size n (nC P e (jd z.cells (n*a.size)).toList) c else none
   |none=>none
  |none=>none
 |_=>none
def Sb(a:List Nat)(o:Oper):Bool:=(o.dst.map fun d=>a.contains (d+300000)).getD false
def frozen(a:List Nat)(o:Oper):Bool:=(o.dst.map fun d=>a.contains (d+100000)).getD false
def Dx(a:List Nat)(o:Oper):Bool:=(o.dst.map a.contains).getD false
def wN(P:Program)(mu:Bool)(t:TypeId)(l c:Operand):Option CI:=
 match P.underlying t,cX P 0 l,cX P 0 c with
 |some (.slice e),some l,some c=>match P.info? e with
  |some a=>match a.zero with
   |some z=>if a.size=1∧z.oneCell'=true∧0<a.bytes then some (.mks mu e a.bytes (cL P e z) l c)else none
   |none=>none
  |none=>none
 |_,_,_=>none
def zT:BinOp→Option Bool
 | .eql=>some false
 | .neq=>some true
 |_=>none
def cZ(P:Program)(t:TypeId):Bool:=match P.underlying t with
 |some (.struct _)=>true
 |some (.array _ _)=>true
 |_=>false
def zU(P:Program)(a:BinOp)(t:TypeId):Option (Bool×List SK×Bool):=
 match zT a,P.underlying t with
 |some neg,some (.struct _)=>if P.eqGuardType P.depth t=false then(dy P 12 t).map fun ks=>(true,ks,neg)else none
 |some neg,some (.array _ _)=>if P.eqGuardType P.depth t=false then(dy P 12 t).map fun ks=>(true,ks,neg)else none
 |some neg,some .bool=>(dy P 12 t).map fun ks=>(false,ks,neg)
 |_,_=>none
def G9(P:Program)(a:BinOp)(t:TypeId)(y:Operand):Option Bool:=match P.underlying t,y with
 |some (.slice _),.const (.slice none 0 0)=>match a with
  | .eql=>some false
  | .neq=>some true
  |_=>none
 |_,_=>none
def zB(P:Program)(b:BinOp)(t:TypeId)(x y:Operand):Option CI:=
 match G9 P b t y with
 |some a=>match cX P t x with
  |some x=>some (.isn a x)
  |none=>none
 |none=>match cX P t x,cX P t y with
 |some x,some y=>match zU P b t with
  |some (ag,ks,a)=>some (.eqa ag ks a x y)
  |none=>some (.bin b x y)
 |_,_=>none
def zG(P:Program):List Operand→List TypeId→Option CI
 |[x],[t]=>match P.underlying t,cX P t x with
  |some (.slice _),some x=>some (.len 0 x)
  |some .string,some x=>some (.len 1 x)
  |some (.map _ _),some x=>some (.len 2 x)
  |_,_=>none
 |_,_=>none
def zA(P:Program)(mu:Bool):List Operand→List TypeId→Option CI
 |[x,y],[t,t']=>match P.underlying t,cX P t x,cX P t y with
  |some (.slice e),some x,some y=>match P.info? e with
   |some j=>match j.zero with
    |some z=>if t=t'∧z.cells.size=j.size∧0<j.size then some (.app mu e j.size j.bytes x y)else none
    |none=>none
   |none=>none
  |_,_,_=>none
 |_,_=>none
def qU(P:Program)(mx:Bool):List Operand→List TypeId→Option CI
 |[x,y],[t,t']=>match cX P t x,cX P t' y with
  |some x,some y=>some (.mm mx x y)
  |_,_=>none
 |_,_=>none
def zD(P:Program):List Operand→List TypeId→Option CI
 |[p],[t]=>match P.underlying t,cX P t p with
  |some (.slice e),some x=>match P.info? e with
   |some i=>match i.zero with
    |some z=>if z.cells.all (·.oneCell')∧z.cells.size=i.size then some (.clr i.size (nC P e z.cells.toList) x)else none
    |none=>none
   |none=>none
  |_,_=>none
 |_,_=>none
def zC(P:Program)(mu:Bool)(c:Call):Option CI:=
 match c.callee with
 | .builtin .len=>zG P c.args.toList c.argTypes.toList
 | .builtin .append=>zA P mu c.args.toList c.argTypes.toList
 | .builtin .clear=>zD P c.args.toList c.argTypes.toList
 | .builtin .max=>qU P true c.args.toList c.argTypes.toList
 | .builtin .min=>qU P false c.args.toList c.argTypes.toList
 | .value (.func f)=>(jx P c.argTypes.toList c.args.toList).map fun xs=> .call (.fn f) xs
 | .value p=>match cX P 0 p,jx P c.argTypes.toList c.args.toList with
  |some x,some xs=>some (.call (.val x) xs)
  |_,_=>none
 |_=>none
def isZero:Operand→Bool
 | .const (.int .i64 0)=>true
 |_=>false
def wP(P:Program)(t:TypeId)(x:Operand)(lo hi mx:Option Operand):Option CI:=
 match P.underlying t,cX P 0 x,jv P 0 lo,jv P 0 hi with
 |some (.slice e),some x,some lo',some hi'=>match P.info? e,mx with
  |some j,none=>some (.slc j.size x lo' hi')
  |some j,some m=>if isZero m&&hi.any isZero&&lo.all isZero then some (.slz j.size x)else none
  |_,_=>none
 |some (.pointer arr),some x,some lo',some hi'=>match P.underlying arr,mx with
  |some (.array n e),none=>match P.info? e with
   |some j=>if n≤9223372036854775807 then some (.sla n j.size x lo' hi')else none
   |none=>none
  |_,_=>none
 |some (.array n e),some x,some lo',some hi'=>match P.info? e,mx with
  |some j,none=>if n≤9223372036854775807 then some (.sla n j.size x lo' hi')else none
  |_,_=>none
 |some .string,some x,some lo',some hi'=>if mx.isNone then some (.sls x lo' hi')else none
 |_,_,_,_=>none
def zF(P:Program)(t:TypeId)(x i:Operand):Option CI:=
 match P.underlying t,cX P t x,cX P 0 i with
 |some (.array n e),some x,some i=>match jS P e,P.info? e with
  |some m,some j=>some (.idx n j.size m x i)
  |_,_=>none
 |some .string,some x,some i=>some (.six x i)
 |_,_,_=>none
def wM(P:Program)(mu:Bool)(a dst:TypeId)(x:Operand):Option CI:=
 match P.underlying a,P.underlying dst,cX P a x with
 |some (.int _),some (.int k),some x=>some (.cnv k x)
 |some .string,some (.slice e),some x=>match P.underlying e with
  |some (.int .u8)=>some (if mu then .s2o e x else .s2b x)
  |_=>none
 |some (.slice e),some .string,some x=>match P.underlying e with
  |some (.int .u8)=>some (.b2s x)
  |_=>none
 |_,_,_=>none
def w6(P:Program)(e:TypeId):Option AV:=match P.info? e with
 |some i=>match i.zero with
  |some z=>cA P e z
  |none=>none
 |none=>none
def zH(P:Program)(t:TypeId)(m k:Operand)(ok:Bool):Option CI:=
 match P.underlying t with
 |some (.map kt et)=>match cX P t m,cX P kt k,dy P 12 kt,w6 P et with
  |some m,some k,some ks,some z=>some (.lkp (cZ P kt) ks z ok m k)
  |_,_,_,_=>none
 |_=>none
def uM(P:Program)(t:TypeId)(m k v:Operand):Option CI:=
 match P.underlying t with
 |some (.map kt et)=>match cX P t m,cX P kt k,cX P et v,dy P 12 kt with
  |some m,some k,some v,some ks=>some (.mup (cZ P kt) ks m k v)
  |_,_,_,_=>none
 |_=>none
def zI(P:Program)(t:TypeId)(m k:Operand):Option CI:=
 match P.underlying t with
 |some (.map kt et)=>match cX P t m,cX P kt k,dy P 12 kt,w6 P et with
  |some m,some k,some ks,some z=>some (.men (cZ P kt) ks z m k)
  |_,_,_,_=>none
 |_=>none
def zJ(P:Program)(t:TypeId)(m i v:Operand):Option CI:=
 match P.underlying t with
 |some (.map _ et)=>match cX P t m,cX P 0 i,cX P et v with
  |some m,some i,some v=>some (.mst m i v)
  |_,_,_=>none
 |_=>none
def zE(P:Program)(t:TypeId)(x i:Operand):Option CI:=
 match P.underlying t,cX P 0 x,cX P 0 i with
 |some (.slice e),some x,some i=>match P.info? e with
  |some j=>some (.iad j.size x i)
  |none=>none
 |some (.array n e),some x,some i=>match P.info? e with
  |some j=>some (.iap n j.size x i)
  |none=>none
 |_,_,_=>none
def T7(a:List Nat)(o:Oper):Bool:=(o.dst.map fun d=>a.contains (d+200000)).getD false
def Ga:Value→Bool
 | .slice none 0 0=>true
 |_=>false
def Fe:X→X
 | .c a=> .c (datA a)
 |x=>x
def uL(P:Program)(a:List Nat)(o:Oper)(x:Operand):Option CI:=
 match T7 a o,x,P.underlying o.type with
 |true,.const v,some (.slice e)=>if Ga v then some (.nlr e (P.cellsOf e))else(cX P o.type x).map .mov
 |_,_,_=>(cX P o.type x).map .mov
def l7(P:Program)(d:List Nat)(o:Oper):Option CI:=
 match o.op with
 | .move x=>uL P d o x
 | .assign x=>uL P d o x
 | .pick c a b=>match cX P 0 c,cX P o.type a,cX P o.type b with
  |some c,some a,some b=>some (.pick c a b)
  |_,_,_=>none
 | .load t x=>match jS P t,cX P 0 x with
  |some n,some x=>some (.ld n x)
  |_,_=>none
 | .store t x v=>match P.info? t,cX P 0 x,cX P t v with
  |some i,some x,some v=>some (.st i.size x (Fe v))
  |_,_,_=>none
 | .fieldAddr t x f=>match P.underlying t,cX P 0 x with
  |some (.struct fs),some x=>match fs[f]? with
   |some g=>if P.cellsOf g.type=0 then none else some (.fad g.offset x)
   |none=>none
  |_,_=>none
 | .indexAddr t x i=>zE P t x i
 | .index t x i=>zF P t x i
 | .field t x f=>match P.underlying t,cX P t x with
  |some (.struct fs),some x=>match fs[f]? with
   |some g=>match jS P g.type with
    |some n=>some (.fld g.offset n x)
    |none=>none
   |none=>none
  |_,_=>none
 | .extract x i=>(cX P 0 x).map fun x=> .ext x i
 | .binOp j t x y _=>zB P j t x y
 | .unOp .not _ x=>(cX P 0 x).map .not
 | .unOp .neg t x=>match P.underlying t with
  |some (.int _)=>(cX P 0 x).map (.un .neg)
  |_=>none
 | .unOp .xor t x=>match P.underlying t with
  |some (.int _)=>(cX P 0 x).map (.un .xor)
  |_=>none
 | .slice t x lo hi mx=>wP P t x lo hi mx
 | .box t x=>(cX P t x).map (if frozen d o then .bxf else .box)
 | .alloc t=>match P.info? t with
  |some i=>match i.zero with
   |some z=>(cA P t z).map fun c=>if frozen d o then .bxt t (.c c)else .box (.c c)
   |none=>none
  |none=>none
 | .build t e=>uK P (Sb d o) t e.toList
 | .buildSlice t n e=>wO P (frozen d o) (Dx d o) t n e.toList
 | .makeSlice t l c=>wN P (Dx d o) t l c
 | .convert h dst x=>wM P (Dx d o) h dst x
 | .nilCheck x=>(cX P 0 x).map .nck
 | .makeFunc (.func f) xs ys=>match jx P [] xs.toList,jx P [] ys.toList with
  |some xs,some ys=>some (.mkf f xs ys)
  |_,_=>none
 | .makeMap t none=>match P.underlying t with
  |some (.map kt _)=>some (.mkm (cZ P kt))
  |_=>none
 | .lookup t m k ok=>zH P t m k ok
 | .mapUpdate t m k v=>uM P t m k v
 | .insert t m k v=>uM P t m k v
 | .mapEntry t m k=>zI P t m k
 | .entryStore t m i v=>zJ P t m i v
 | .call c=>zC P (Dx d o) c
 |_=>none
theorem dX.value{P:Program}{o:Oper}{a:Act}{w:World}{Q:Value→World→Prop}{v:Value}{w':World}(h:(execOp a.eval o).run P w= .ok (.value v) w')(c:Q v w'):dX P o a w Q:=fun b r d=>by
 refine⟨fun f _=>uc r f,?_⟩;rw[yS,Ho b,h];exact⟨v,rfl,c⟩
theorem dX.skip{P:Program}{o:Oper}{a:Act}{w:World}{Q:Value→World→Prop}{w':World}(h:(execOp a.eval o).run P w= .ok .skip w')(c:Q undef w'):dX P o a w Q:=fun b r d=>by
 refine⟨fun f _=>uc r f,?_⟩;rw[yS,Ho b,h];exact⟨undef,rfl,c⟩
theorem eI{P:Program}{w w':World}{s:Sem Value}{v:Value}(h:s.run P w= .ok v w'):(do pure (Next.value (←s)):Sem Next).run P w= .ok (.value v) w':=by
 simp only[bF,h,bL,bZ]
theorem vM{P:Program}{w w':World}{s:Sem Unit}(h:s.run P w= .ok () w'):(do s;pure Next.skip:Sem Next).run P w= .ok .skip w':=by
 simp only[bF,h,bL,bZ]
theorem a2S{P:Program}(w:World){c:BinOp}{u v r:Value}(h:cU c u v=some r)(t:TypeId)(x y:Operand):(do eqGuard c t x y u v;binOp c t u v:Sem Value).run P w= .ok r w:=by
 unfold cU at h;split at h<;>first
  |(cases h;done)
  |(split at h<;>first|(cases h;done)|(rename_i e;subst e;obtain rfl:=aJ h;simp[eqGuard,binOp,Op.intArith,Op.intCmp,go_sem];done))
  |(split at h<;>first|(cases h;done)|(rename_i e;subst e;obtain rfl:=aJ h;simp[eqGuard,binOp,Op.intBits,go_sem];done))
  |(split at h<;>first|(cases h;done)|(rename_i e;obtain⟨e,d⟩:=e;subst e;obtain rfl:=aJ h;simp[eqGuard,binOp,Op.intDiv,if_neg d,go_sem];done))
  |(split at h<;>first|(cases h;done)|(rename_i e;obtain rfl:=aJ h;simp[eqGuard,binOp,Op.shift,if_neg (Int.not_lt.2 e),go_sem];done))
  |(obtain rfl:=aJ h;simp[eqGuard,binOp,Op.stringOp,go_sem];done)
  |skip
 rename_i a b;split at h
 ·rename_i f;obtain rfl:=aJ h;have: ¬(((a.size+b.size:Nat):Int)>IntKind.i64.max):=by
   rw[show IntKind.i64.max=9223372036854775807 by decide];omega
  simp only[eqGuard,binOp,Op.stringOp,if_neg this];simp[go_sem]
 ·cases h
theorem RA.sc_eq{k:aU}{w:World}{v u:Value}{x:AV}(h:RA k w v x)(a:x.sc? =some u):v=u:=by
 unfold AV.sc? at a;split at a
 ·obtain rfl:=aJ a;have:=h.d_inv;cases this;rfl
 ·cases a
theorem AV.bool_sc{x:AV}{b:Bool}(h:x.bool? =some b):x.sc? =some (.bool b):=by
 unfold AV.bool? at h;split at h
 ·obtain rfl:=aJ h;rfl
 ·cases h
theorem AV.num_sc{x:AV}{n:Int}(h:x.num? =some n): ∃k,x.sc? =some (.int k n):=by
 unfold AV.num? at h;split at h
 ·obtain rfl:=aJ h;exact⟨_,rfl⟩
 ·cases h
theorem AV.int_sc{x:AV}{n:Int}(h:x.int? =some n):x.sc? =some (.int .i64 n):=by
 unfold AV.int? at h;split at h
 ·obtain rfl:=aJ h;rfl
 ·cases h
theorem AV.str_sc{x:AV}{b:ByteArray}(h:x.str? =some b):x.sc? =some (.string b):=by
 unfold AV.str? at h;split at h
 ·obtain rfl:=aJ h;rfl
 ·cases h
theorem OH{sz:Nat}{x:AV}{rows:List (List D)}(h:slA sz x=some rows):x.toL=some (.sl sz rows):=by
 unfold slA at h;split at h
 ·split at h
  ·rename_i e;obtain rfl:=e;obtain rfl:=aJ h;rfl
  ·cases h
 ·split at h
  ·rename_i e;obtain rfl:=e;obtain rfl:=aJ h;rfl
  ·cases h
 ·split at h
  ·rename_i e;obtain rfl:=e;obtain rfl:=aJ h;rfl
  ·cases h
 ·split at h
  ·rename_i e;obtain rfl:=e;obtain rfl:=aJ h;rfl
  ·cases h
 ·cases h
theorem RA.slA{k:aU}{w:World}{v:Value}{sz:Nat}{x:AV}{rows:List (List D)}(h:RA k w v x)(a:Bb.slA sz x=some rows):RD k.I w v (.sl sz rows):=h.toL (OH a)
theorem Oo{P:Program}{w:World}{p:Addr}{v:Value}(hc:w.cell? p=some v){t:TypeId}(c:jS P t=some none):(Instr.loadAt t (.pointer (some p))).run P w= .ok v w:=by
 obtain⟨d,i,e,hi,a⟩:=HC c;have b:d.isRow=false:=by cases h:d.isRow<;>simp[h]at a⊢
 simp[Instr.loadAt,Instr.sureAddr,loadVar,yl e,b,hc]
theorem P5{P:Program}{t:TypeId}{m:Nat}(c:jS P t=some (some m)): ∃d,P.underlying t=some d∧d.isRow=true∧(P.info? t).map (·.size)=some m:=by
 obtain⟨d,i,e,hi,a⟩:=HC c;have b:d.isRow=true:=by cases h:d.isRow<;>simp[h]at a⊢
 rw[b]at a;simp at a;exact⟨d,e,b,by rw[hi];simp[a]⟩
theorem Oq{P:Program}{w:World}{b off:Nat}{us:List Value}(hc:w.rangeAt b off us){t:TypeId}(f:jS P t=some (some us.length)):(Instr.loadAt t (.pointer (some ⟨b,off,none⟩))).run P w= .ok (.agg us.toArray) w:=by
 obtain⟨d,a,c,e⟩:=P5 f;simp only[Instr.loadAt,Instr.sureAddr,bF,bZ,bL,run_loadVar_mid w b off t us d hc a c e]
theorem uG{w:World}{b t:Nat}{us:List Value}(h:w.heap[b]?=some (.cells us.toArray t (0,0)))(i:Nat):w.cell? ⟨b,i,none⟩=us[i]? :=by
 rw[cell_of_row w b i _ t (0,0) h];simp
theorem Ds{P:Program}{k:aU}{w:World}{b base off:Nat}{us:List Value}{cs:List AV}{t:TypeId}{n:Option Nat}{d:AV}(hc: ∀i u,us[i]?=some u→w.cell? ⟨b,base+i,none⟩=some u)(o:bO k w us cs)(p:jS P t=some n)(l:pz cs off n=some d):
  ∃v,(Instr.loadAt t (.pointer (some ⟨b,base+off,none⟩))).run P w= .ok v w∧RA k w v d:=by
 cases n with
 |none=>
  obtain⟨u,g,q,h⟩:=o.get l;exact⟨u,Oo (hc off u g) p,h⟩
 |some m=>
  have a:(if off+m≤cs.length then some (aggA ((cs.drop off).take m))else none)=some d:=l;split at a
  ·rename_i hm;obtain rfl:=aJ a;have f:=(o.drop off).take m;have e:((us.drop off).take m).length=m:=by rw[f.1];simp;omega
   refine⟨.agg ((us.drop off).take m).toArray,Oq (fun j v c=> ?_) (by rw[e];exact p),RA.aggA (.agg f.1 f.2.1 f.2.2)⟩;rw[eY]at c;split at c
   ·rw[fm]at c;rw[kW];exact hc _ _ c
   ·cases c
  ·cases a
theorem Lf{P:Program}{k:aU}{w:World}{b base off:Nat}{us:List Value}{ds:List D}{t:TypeId}{n:Option Nat}{d:AV}(hc: ∀i u,us[i]?=some u→w.cell? ⟨b,base+i,none⟩=some u)(p:db k.I w us ds)(q:jS P t=some n)(o:vv ds off n=some d):
  ∃v,(Instr.loadAt t (.pointer (some ⟨b,base+off,none⟩))).run P w= .ok v w∧RA k w v d:=by
 cases n with
 |none=>
  obtain⟨e,r,rfl⟩:=dt.1 o;obtain⟨u,h,l⟩:=p.get r;exact⟨u,Oo (hc off u h) q,.d l⟩
 |some m=>
  have a:(if off+m≤ds.length then some (AV.d (.agg ((ds.drop off).take m)))else none)=some d:=o;split at a
  ·rename_i hm;obtain rfl:=aJ a;have g:=(p.drop off).take m;have f:((us.drop off).take m).length=m:=by rw[g.1];simp;omega
   refine⟨.agg ((us.drop off).take m).toArray,Oq (fun j v c=> ?_) (by rw[f];exact q),.d (.agg _ _ g.1 g.2.1 g.2.2)⟩;rw[eY]at c;split at c
   ·rw[fm]at c;rw[kW];exact hc _ _ c
   ·cases c
  ·cases a
theorem sq{o:Option aa}{cs:List AV}(h:mY o=some cs):o=some (.cells cs):=by
 unfold mY at h;split at h
 ·obtain rfl:=aJ h;rfl
 ·cases h
theorem iw{n:Nat}{o:Option aa}{sz:Nat}{ds:List AV}(h:gx n o=some (sz,ds)): ∃e,o=some (.vec e sz ds)∧0<sz∧ds.length=n*sz:=by
 unfold gx at h;split at h
 ·split at h
  ·rename_i hc;cases h;exact⟨_,rfl,hc.1,hc.2⟩
  ·cases h
 ·cases h
theorem xy{a:Bool}{o:Option aa}{es:List (List Value×AV)}(h:qh a o=some es):o=some (.map a es):=by
 unfold qh at h;split at h
 ·split at h
  ·rename_i e;subst e;obtain rfl:=aJ h;rfl
  ·cases h
 ·cases h
theorem LF{o:Option aa}{n:Int}(h:rl o=some n): ∃a es,o=some (.map a es)∧n=es.length:=by
 unfold rl at h;split at h
 ·obtain rfl:=aJ h;exact⟨_,_,rfl,rfl⟩
 ·cases h
theorem V6{o:Option aa}{a:Bool}{es:List (List Value×AV)}(h:xz o=some (a,es)):o=some (.map a es):=by
 unfold xz at h;split at h
 ·obtain⟨rfl,rfl⟩:=eF (aJ h);rfl
 ·cases h
section
variable {LL:Nat→Code→CC→Prop} {P:Program} {o:Oper} {fr:Fr} {s s':List aa} {d:AV}
theorem yF{B:Nat}{k:aU}{w:World}(j:St LL B k s w){id e sz n:Nat}{ds:List AV}(f:s[id]?=some (.vec e sz ds))(l:0<sz)(v:ds.length=n*sz){b:Nat}
  (hb: ∃u c,k.own[id]?=some (.row u c)∧n≤c∧(n=c→u.ownBlock=some b)):
  ∃u xs cap cur,k.own[id]?=some (.row u n)∧w.ownsRow B e sz u n xs∧u= .slice (some ⟨b,0,none⟩) n cap∧B≤b∧w.heap[b]?=some (.cells cur e (0,0))∧n≤cap∧cap≤maxLen∧cur.size=cap*sz∧cur.toList.take (n*sz)=xs∧bO k w xs ds∧k.I b=0∧ ∀(i:Nat) (x:Value),xs[i]?=some x→w.cell? ⟨b,i,none⟩=some x:=by
 obtain⟨u,c,p,z,t⟩:=hb;obtain⟨C,A,xs,m,d,q,o,r⟩:=j.vec f;rw[p]at m;cases m;have h:n=c:=by
  rw[v]at o;exact kX l o
 subst h;have a:=t rfl;rcases d.2 with⟨rfl,_⟩|⟨g,cap,cur,rfl,k2,k3,k4,k5,k6,k7⟩
 ·simp[Value.ownBlock]at a
 ·simp[Value.ownBlock]at a;subst a;refine⟨_,xs,cap,cur,p,d,rfl,k2,k3,k4,k5,k6,k7,r,q _ rfl,fun i x y=> ?_⟩;have:=d.cells (g:=g) rfl i x y;rw[fi,aw]at this;exact this
theorem dK{o:Option AV}(h:ret s o=some (d,s')):o=some d∧s'=s:=by
 obtain⟨x,a,b⟩:=dt.1 h;obtain⟨rfl,rfl⟩:=eF b;exact⟨a,rfl⟩
theorem aT{α β:Type}{o:Option α}{f:α→Option β}{y:β}(h:o.bind f=some y): ∃x,o=some x∧f x=some y:=yZ.1 h
theorem bB{α β:Type}{o:Option α}{f:α→β}{y:β}(h:o.map f=some y): ∃x,o=some x∧f x=y:=dt.1 h
theorem bu.pure(h: ∀(B:Nat) (k:aU) (a:Act) (w:World),jm k w a o fr→St LL B k s w→ ∃v,(execOp a.eval o).run P w= .ok (.value v) w∧RA k w v d):bu LL P o fr s d s:=
 fun B k a w f b=>let⟨v,c,e⟩:=h B k a w f b;dX.value c ⟨k,e,Ext.refl B k w,b⟩
theorem YM{k:aU}{w:World}{a:Act}{o:Oper}{fr:Fr}(h:jm k w a o fr){p:Operand}(hp:p∈o.op.operands): ∀u y,p= .tmp u→look fr u=some y→RA k w (a.tmps.getD u undef) y:=
 fun u y e b=>h u y (by rw[←e];exact hp) b
theorem bI{k:aU}{w:World}{a:Act}{o:Oper}{fr:Fr}(b:jm k w a o fr){p:Operand}(hp:p∈o.op.operands){t:TypeId}{x:X}(d:cX P t p=some x){c:AV}(hc:x.ev fr=some c):RA k w (a.eval p) c:=
 F5 d hc (YM b hp)
theorem M1{x:Operand}{t:TypeId}{y:X}(b:o.op= .move x∨o.op= .assign x)(f:cX P t x=some y)(h:(CI.mov y).sem fr s=some (d,s')):bu LL P o fr s d s':=by
 obtain⟨hc,rfl⟩:=dK h;refine bu.pure fun B k a w c e=>⟨a.eval x,?_,bI (p:=x) c (by rcases b with b|b<;>rw[b]<;>simp[Op.operands]) f hc⟩
 unfold execOp;rcases b with b|b<;>rw[b]<;>rfl
theorem VS{c a b:Operand}{t:TypeId}{x y z:X}(f:o.op= .pick c a b)(q:cX P 0 c=some x)(r:cX P t a=some y)(u:cX P t b=some z)(h:(CI.pick x y z).sem fr s=some (d,s')):bu LL P o fr s d s':=by
 obtain⟨hc,rfl⟩:=dK h;obtain⟨v,n,j⟩:=aT hc;obtain⟨A,g,hb⟩:=aT n;refine bu.pure fun B k i w e m=> ?_;have l:=(bI (p:=c) e (by rw[f];simp[Op.operands]) q g).sc_eq (AV.bool_sc hb);cases v with
 |true=>
  refine⟨i.eval a,?_,bI (p:=a) e (by rw[f];simp[Op.operands]) r j⟩;unfold execOp;rw[f];simp[l,asBool]
 |false=>
  refine⟨i.eval b,?_,bI (p:=b) e (by rw[f];simp[Op.operands]) u j⟩;unfold execOp;rw[f];simp[l,asBool]
theorem VH{t:TypeId}{p:Operand}{n:Option Nat}{x:X}(M:o.op= .load t p)(I:jS P t=some n)(U:cX P 0 p=some x)(h:(CI.ld n x).sem fr s=some (d,s')):bu LL P o fr s d s':=by
 have hp:p∈o.op.operands:=by rw[M];simp[Op.operands]
 obtain⟨hc,rfl⟩:=dK h;obtain⟨v,T,j⟩:=aT hc;refine bu.pure fun B k a w A D=> ?_;have C:=bI A hp U T;have f: ∀(u:Value),(Instr.loadAt t (a.eval p)).run P w= .ok u w→(execOp a.eval o).run P w= .ok (.value u) w:=fun u C=>by
  unfold execOp;rw[M];exact eI C
 unfold jQ at j;split at j
 ·have E:=C.d_inv;generalize r:a.eval p=u at E f;cases E with
  |ref b off us ds E Q R S=>
   obtain⟨y,c,g⟩:=Lf (P:=P) (base:=off) (off:=0) (fun i u r=>(R i u r).2) ⟨E,Q,S⟩ I j;exact⟨y,f y c,g⟩
 ·rename_i id off;obtain⟨cs,l,j⟩:=aT j;obtain⟨b,hb,q⟩:=C.ptr_inv;obtain⟨V,t',us,F,K,L,_⟩:=D.cells (sq l);rw[hb]at F;cases F;obtain⟨y,c,g⟩:=Ds (P:=P) (base:=0) (off:=off) (b:=b) (fun i u r=>by rw[aw,uG K];exact r) L I j;rw[aw]at c;exact⟨y,f y (by rw[q];exact c),g⟩
 ·rename_i id m off;obtain⟨⟨sz,ds⟩,l,j⟩:=aT j;obtain⟨e,H,J,z⟩:=iw l;obtain⟨b,q,hb⟩:=C.vptr_inv;obtain⟨u,xs,cap,cur,F,K,rfl,L,W,Y,Z,g7,g8,O,N,G⟩:=yF D H J z hb;obtain⟨y,c,g⟩:=Ds (P:=P) (base:=0) (off:=off) (b:=b) (fun i u r=>by rw[aw];exact G i u r) O I j;rw[aw]at c
  exact⟨y,f y (by rw[q];exact c),g⟩
 ·cases j
theorem a2A{k:aU}{w:World}{b off n:Nat}{us:List Value}{ds:List D}(e: ∀i u,us[i]?=some u→off+i<k.I b∧w.cell? ⟨b,off+i,none⟩=some u)(h:db k.I w us ds):RA k w (.pointer (some ⟨b,off+n,none⟩)) (.d (.ref (ds.drop n))):=by
 have a:=h.drop n;refine .d (.ref _ _ _ _ a.1 a.2.1 (fun i u c=> ?_) a.2.2);rw[fm]at c;rw[kW];exact e _ u c
theorem Fq{k:aU}{w:World}{v:Value}{x y:AV}{n:Nat}(h:RA k w v x)(a:mr n x=some y): ∃b off,v= .pointer (some ⟨b,off,none⟩)∧RA k w (.pointer (some ⟨b,off+n,none⟩)) y:=by
 unfold mr at a;split at a
 ·obtain rfl:=aJ a;have c:=h.d_inv;cases c with
  |ref b off us ds c e f g=>exact⟨b,off,rfl,a2A f ⟨c,e,g⟩⟩
 ·obtain rfl:=aJ a;obtain⟨b,hb,d⟩:=h.ptr_inv;exact⟨b,_,d,.ptr hb⟩
 ·obtain rfl:=aJ a;obtain⟨b,d,hb⟩:=h.vptr_inv;exact⟨b,_,d,.vptr hb⟩
 ·cases a
theorem VA{t:TypeId}{p:Operand}{f:Nat}{l:Array Field}{c:Field}{x:X}(m:o.op= .fieldAddr t p f)(z:P.underlying t=some (.struct l))(r:l[f]?=some c)(j:P.cellsOf c.type≠0)(C:cX P 0 p=some x)
  (h:(CI.fad c.offset x).sem fr s=some (d,s')):bu LL P o fr s d s':=by
 have hp:p∈o.op.operands:=by rw[m];simp[Op.operands]
 obtain⟨hc,rfl⟩:=dK h;obtain⟨v,A,n⟩:=aT hc;refine bu.pure fun B k a w e y=> ?_;obtain⟨b,off,q,u⟩:=Fq (bI e hp C A) n;refine⟨_,?_,u⟩;unfold execOp;rw[m];refine eI ?_;have g:(sizeOf c.type).run P w= .ok (P.cellsOf c.type) w:=by
  unfold Program.cellsOf at j⊢;unfold sizeOf typeInfo;cases hi:P.info? c.type with
  |none=>simp[hi]at j
  |some i=>simp[hi]
 simp only[Instr.fieldAt,bF,run_underlying z,bL,r,q,Instr.sureAddr,bZ,fieldPlace,g,if_neg j,fi]
theorem VP{p:Operand}{x:X}(e:o.op= .nilCheck p)(m:cX P 0 p=some x)(h:(CI.nck x).sem fr s=some (d,s')):bu LL P o fr s d s':=by
 have hp:p∈o.op.operands:=by rw[e];simp[Op.operands]
 obtain⟨hc,rfl⟩:=dK h;obtain⟨v,l,f⟩:=aT hc;refine bu.pure fun B k a w c j=> ?_;obtain⟨b,off,g,i⟩:=Fq (bI c hp m l) f;refine⟨_,?_,i⟩;unfold execOp;rw[e];dsimp only;rw[g];rfl
theorem VC{t e:TypeId}{j:TypeInfo}{p q:Operand}{x y:X}(ho:o.op= .indexAddr t p q)(hu:P.underlying t=some (.slice e))(hj:P.info? e=some j)(hx:cX P 0 p=some x)(hy:cX P 0 q=some y)
  (h:(CI.iad j.size x y).sem fr s=some (d,s')):bu LL P o fr s d s':=by
 have hp:p∈o.op.operands:=by rw[ho];simp[Op.operands]
 have hq:q∈o.op.operands:=by rw[ho];simp[Op.operands]
 obtain⟨hc,rfl⟩:=dK h;obtain⟨n,Z,hc⟩:=aT hc;obtain⟨iv,W,Z⟩:=aT Z;obtain⟨v,hv,C⟩:=aT hc;refine bu.pure fun B k a w D R=> ?_;have U:=bI D hp hx hv;obtain⟨ik,V⟩:=AV.num_sc Z;have hi:=(bI D hq hy W).sc_eq V
 have i: ∀(b off m c:Nat),a.eval p= .slice (some ⟨b,off,none⟩) m c→0≤n→n<m→(execOp a.eval o).run P w= .ok (.value (.pointer (some ⟨b,off+n.toNat*j.size,none⟩))) w:=fun b off m c h1 h3 h4=>by
  unfold execOp;rw[ho];refine eI ?_;have F:0≤n∧n<(m:Int):=⟨h3,h4⟩
  simp only[Instr.indexAt,h1,hi,asIntOf,bF,bZ,bL,run_underlying hu,if_pos F,sizeOf,typeInfo,run_program,hj,fi]
 unfold pC at C;split at C
 ·rename_i id m T;obtain⟨⟨sz,ds⟩,G,f⟩:=aT C;obtain⟨e',I,L,z⟩:=iw G;dsimp only at f;split at f
  ·rename_i l;obtain⟨rfl,rfl,M,c2⟩:=l;obtain rfl:=aJ f;obtain⟨⟨ad,c,A⟩,u,n',hk,Y,H⟩:=U.vec_inv;obtain⟨u2,n2,xs,O,g2,g3,Q,g5⟩:=R.vec I;rw[hk]at O;cases O;have J:m=n':=by
    rw[z]at Q;exact kX L Q
   subst J;have S:=H rfl;rw[S]at A;rcases g2.2 with⟨_,h9⟩|⟨g,cap,cur,hvv',k2,_⟩
   ·omega
   ·refine⟨_,i g 0 m cap (by rw[S];exact hvv') M a8,?_⟩;rw[aw];exact .vptr ⟨u,m,hk,bk _,fun _=>by rw[hvv'];rfl⟩
  ·cases f
 ·rename_i id off m T;split at C
  ·rename_i l;obtain⟨rfl,M,c2⟩:=l;obtain rfl:=aJ C;obtain⟨b,c,hb,A,_,_⟩:=U.win_inv;exact⟨_,i b off m c A M a8,.ptr hb⟩
  ·cases C
 ·rename_i id N off m T;obtain⟨⟨sz,ds⟩,G,f⟩:=aT C;obtain⟨e',I,L,z⟩:=iw G;dsimp only at f;split at f
  ·rename_i l;obtain⟨rfl,rfl,M,c2,c3⟩:=l;obtain rfl:=aJ f;obtain⟨_,u,n',hk,Y,H⟩:=U.vwn_inv;obtain⟨u2,n2,xs,O,g2,g3,Q,g5⟩:=R.vec I;rw[hk]at O;cases O;have J:N=n':=by
    rw[z]at Q;exact kX L Q
   subst J;obtain⟨b,c,a0,A,_,_⟩:=H rfl;have a1:u.ownBlock=some b:=by rw[a0];rfl
   refine⟨_,i b (off*j.size) m c A M a8,?_⟩;rw[←fe];exact .vptr ⟨u,N,hk,bk _,fun _=>a1⟩
  ·cases f
 ·obtain⟨rows,K,f⟩:=aT C;split at f
  ·rename_i h0;obtain⟨r,E,rfl⟩:=bB f;obtain⟨b,off,c,a2,a3⟩:=(U.slA K).sl_at E;have a4:n.toNat<rows.length:=(b9.1 E).1;exact⟨_,i b off rows.length c a2 h0 a8,.d a3⟩
  ·cases f
theorem VD{t e:TypeId}{n:Nat}{j:TypeInfo}{p q:Operand}{x y:X}(z:o.op= .indexAddr t p q)(J:P.underlying t=some (.array n e))(F:P.info? e=some j)(L:cX P 0 p=some x)(M:cX P 0 q=some y)
  (h:(CI.iap n j.size x y).sem fr s=some (d,s')):bu LL P o fr s d s':=by
 have hp:p∈o.op.operands:=by rw[z];simp[Op.operands]
 have G:q∈o.op.operands:=by rw[z];simp[Op.operands]
 obtain⟨hc,rfl⟩:=dK h;obtain⟨m,hm,hc⟩:=aT hc;obtain⟨O,u,hm⟩:=aT hm;obtain⟨v,K,g⟩:=aT hc;refine bu.pure fun B k a w c I=> ?_;obtain⟨N,r⟩:=AV.num_sc hm;have hi:=(bI c G M u).sc_eq r;have key: ∃A,0≤m∧m<n∧mr (m.toNat*j.size) v=some A∧A=d:=by
  unfold vD at g;split at g<;>first|(cases g;done)|(split at g<;>first|(cases g;done)|(rename_i i;obtain rfl:=aJ g;exact⟨_,i.1,i.2,rfl,rfl⟩))
 obtain⟨_,C,D,l,rfl⟩:=key;obtain⟨b,off,E,H⟩:=Fq (bI c hp L K) l;refine⟨_,?_,H⟩;unfold execOp;rw[z];refine eI ?_;have f:0≤m∧m<(n:Int):=⟨C,D⟩
 simp only[Instr.indexAt,E,hi,asIntOf,bF,bZ,bL,run_underlying J,Instr.sureAddr,if_pos f,sizeOf,typeInfo,run_program,F,fi]
theorem N0{k:aU}{w:World}{us:List Value}{cs:List AV}{t:TypeId}{off:Nat}{n:Option Nat}{d:AV}(e:bO k w us cs)(s:jS P t=some n)(r:pz cs off n=some d): ∃v,(part t us.toArray off).run P w= .ok v w∧RA k w v d:=by
 cases n with
 |none=>
  obtain⟨u,p,c,q⟩:=e.get r;refine⟨u,?_,q⟩;obtain⟨f,i,c,hi,o⟩:=HC s;have e:f.isRow=false:=by cases h:f.isRow<;>simp[h]at o⊢
  have b:us.toArray[off]?=some u:=by simpa using p
  simp only[part,bF,yl c,e,bL,jU,if_false,b,bZ]
 |some m=>
  have a:(if off+m≤cs.length then some (aggA ((cs.drop off).take m))else none)=some d:=r;split at a
  ·obtain rfl:=aJ a;have j:=(e.drop off).take m;refine⟨.agg ((us.drop off).take m).toArray,?_,RA.aggA (.agg j.1 j.2.1 j.2.2)⟩;obtain⟨f,x,y,g⟩:=P5 s;cases hi:P.info? t with
   |none=>simp[hi]at g
   |some i=>
    simp[hi]at g;have l:us.toArray.extract off (off+m)=((us.drop off).take m).toArray:=by
     apply Array.ext';simp[List.take_drop]
    simp only[part,bF,yl x,y,bL,if_true,sizeOf,typeInfo,run_program,hi,g,bZ,l]
  ·cases a
theorem VB{t:TypeId}{p:Operand}{f:Nat}{i:Array Field}{c:Field}{n:Option Nat}{x:X}(j:o.op= .field t p f)(D:P.underlying t=some (.struct i))(y:i[f]?=some c)(z:jS P c.type=some n)(F:cX P t p=some x)
  (h:(CI.fld c.offset n x).sem fr s=some (d,s')):bu LL P o fr s d s':=by
 have hp:p∈o.op.operands:=by rw[j];simp[Op.operands]
 obtain⟨hc,rfl⟩:=dK h;obtain⟨v,E,g⟩:=aT hc;obtain⟨cs,e,q⟩:=aT g;refine bu.pure fun B k a w b C=> ?_;obtain⟨us,r,A⟩:=(bI b hp F E).row e;obtain⟨u,l,m⟩:=N0 (P:=P) A z q;refine⟨u,?_,m⟩;unfold execOp;rw[j];refine eI ?_;simp only[Instr.field,r,bF,run_underlying D,bL,y,asAgg,bZ,l]
theorem VE{t e:TypeId}{z:Nat}{j:TypeInfo}{p q:Operand}{n:Option Nat}{x y:X}(r:o.op= .index t p q)(K:P.underlying t=some (.array z e))(G:jS P e=some n)(F:P.info? e=some j)(M:cX P t p=some x)(N:cX P 0 q=some y)
  (h:(CI.idx z j.size n x y).sem fr s=some (d,s')):bu LL P o fr s d s':=by
 have hp:p∈o.op.operands:=by rw[r];simp[Op.operands]
 have H:q∈o.op.operands:=by rw[r];simp[Op.operands]
 obtain⟨hc,rfl⟩:=dK h;obtain⟨m,hm,hc⟩:=aT hc;obtain⟨Q,l,hm⟩:=aT hm;obtain⟨v,L,b⟩:=aT hc;unfold H6 at b;split at b
 ·rename_i f;obtain⟨cs,g,D⟩:=aT b;refine bu.pure fun B k a w c J=> ?_;obtain⟨O,i⟩:=AV.num_sc hm;have hi:=(bI c H N l).sc_eq i;obtain⟨us,E,I⟩:=(bI c hp M L).row g;obtain⟨u,A,C⟩:=N0 (P:=P) I G D;refine⟨u,?_,C⟩;unfold execOp;rw[r];refine eI ?_
  simp only[Instr.index,E,hi,asIntOf,bF,bZ,bL,run_underlying K,if_pos f,sizeOf,typeInfo,run_program,F,A]
 ·cases b
theorem VW{t:TypeId}{p q:Operand}{x y:X}(l:o.op= .index t p q)(z:P.underlying t=some .string)(C:cX P t p=some x)(D:cX P 0 q=some y)(h:(CI.six x y).sem fr s=some (d,s')):bu LL P o fr s d s':=by
 have hp:p∈o.op.operands:=by rw[l];simp[Op.operands]
 have r:q∈o.op.operands:=by rw[l];simp[Op.operands]
 obtain⟨hc,rfl⟩:=dK h;obtain⟨b,hb,hc⟩:=aT hc;obtain⟨v,A,hb⟩:=aT hb;obtain⟨m,hm,g⟩:=aT hc;obtain⟨F,j,hm⟩:=aT hm;unfold H8 at g;split at g
 ·rename_i f;obtain⟨c,hg,rfl⟩:=bB g;refine bu.pure fun B k a w e u=>⟨_,?_,.d (RD.sc _)⟩
  obtain⟨E,i⟩:=AV.num_sc hm;have hi:=(bI e r D j).sc_eq i;have n:=(bI e hp C A).sc_eq (AV.str_sc hb);unfold execOp;rw[l];refine eI ?_;simp only[Instr.index,n,hi,asIntOf,bF,bZ,bL,run_underlying z,if_pos f,hg]
 ·cases g
theorem Vz{p:Operand}{i:Nat}{x:X}(q:o.op= .extract p i)(A:cX P 0 p=some x)(h:(CI.ext x i).sem fr s=some (d,s')):bu LL P o fr s d s':=by
 have hp:p∈o.op.operands:=by rw[q];simp[Op.operands]
 obtain⟨hc,rfl⟩:=dK h;obtain⟨v,z,j⟩:=aT hc;refine bu.pure fun B k a w l t=> ?_;have r:=bI l hp A z;have b: ∀(us:List Value) (u:Value),a.eval p= .tuple us.toArray→us[i]?=some u→(execOp a.eval o).run P w= .ok (.value u) w:=fun us u f g=>by
  unfold execOp;rw[q];refine eI ?_;have C:us.toArray[i]?=some u:=by simpa using g
  simp[Instr.extract,f,g]
 unfold rJ at j;split at j
 ·rename_i ds;obtain⟨e,n,rfl⟩:=bB j;have f:=r.d_inv;generalize y:a.eval p=u at f b;cases f with
  |tup us ds f g=>
   have hi:=(b9.1 n).1;have c:i<us.length:=by omega
   have hg:us[i]?=some us[i]:=bN c;exact⟨us[i],b us _ rfl hg,.d (g i _ e hg n)⟩
 ·rename_i cs;obtain⟨us,m,f,g⟩:=r.tup_inv;have hi:=(b9.1 j).1;have c:i<us.length:=by omega
  have hg:us[i]?=some us[i]:=bN c;exact⟨us[i],b us _ m hg,g i _ d hg j⟩
 ·cases j
theorem Vr{j:BinOp}{t C:TypeId}{p q:Operand}{x y:X}(c:o.op= .binOp j t p q C)(z:cX P t p=some x)(A:cX P t q=some y)(h:(CI.bin j x y).sem fr s=some (d,s')):bu LL P o fr s d s':=by
 have hp:p∈o.op.operands:=by rw[c];simp[Op.operands]
 have l:q∈o.op.operands:=by rw[c];simp[Op.operands]
 obtain⟨hc,rfl⟩:=dK h;obtain⟨u,e,hc⟩:=aT hc;obtain⟨D,g,e⟩:=aT e;obtain⟨v,f,hc⟩:=aT hc;obtain⟨E,i,f⟩:=aT f;obtain⟨r,m,rfl⟩:=bB hc;refine bu.pure fun B k a w b n=>⟨r,?_,.d (RD.sc _)⟩
 unfold execOp;rw[c];refine eI ?_;rw[(bI b hp z g).sc_eq e,(bI b l A i).sc_eq f];exact a2S w m t p q
theorem Oz{k:aU}{w:World}: ∀{us:List Value} {cs:List AV} {vs:List Value},bO k w us cs→jR cs=some vs→us=vs
 |[],[],vs,_,h=>by simpa[jR]using h
 |u::us,[],vs,h,_=>by have:=h.1;simp at this
 |[],c::cs,vs,h,_=>by have:=h.1;simp at this
 |u::us,c::cs,vs,h,a=>by
  unfold jR at a;split at a
  ·rename_i e;cases e
  ·rename_i v f e;obtain⟨rfl,rfl⟩:=List.cons.inj e;obtain⟨o,g,rfl⟩:=dt.1 a;have j:=(h.2.2 0 u (.d (.sc v)) rfl rfl).d_inv;have m:u=v:=by cases j;rfl
   have l:bO k w us cs:=⟨by have:=h.1;simpa using this,fun x b=>h.2.1 x (by simp[b]),fun i x y b n=>h.2.2 (i+1) x y b n⟩
   rw[m,Oz l g]
  ·cases a
theorem RA.key_eq{k:aU}{w:World}{v:Value}{x:AV}{g:Bool}{us:List Value}{t:TypeId}(h:RA k w v x)(j:x.key g=some us)(b:g=cZ P t):v=valC P t us∧v.cells.toList=us:=by
 cases g with
 |true=>
  have c:x.row.bind jR=some us:=j;obtain⟨cs,i,p⟩:=aT c;obtain⟨us',rfl,o⟩:=h.row i;obtain rfl:=Oz o p;refine⟨?_,by simp[Value.cells]⟩;unfold cZ at b;unfold Bb.valC;split at b
  ·rename_i a;rw[a]
  ·rename_i a;rw[a]
  ·cases b
 |false=>
  have c:(x.sc?.bind fun u=>if u.oneCell' then some [u]else none)=some us:=j;obtain⟨u,a,d⟩:=aT c;split at d
  ·rename_i f;obtain rfl:=aJ d;obtain rfl:=h.sc_eq a;have q:v.cells= #[v]:=by cases v<;>first|rfl|simp[Value.oneCell']at f
   refine⟨?_,by rw[q]⟩;unfold cZ at b;unfold Bb.valC;split at b
   ·cases b
   ·cases b
   ·rename_i d m;split
    ·rename_i l a;exact absurd a (d l)
    ·rename_i n e a;exact absurd a (m n e)
    ·rfl
  ·cases d
end
end Go.Bb
namespace Go.Bb
open Go Go.RowKit Go.Ab Go.Proofs.Lg
section
variable {LL:Nat→Code→CC→Prop} {P:Program} {o:Oper} {fr:Fr} {s s':List aa} {d:AV}
theorem TV{P:Program}{i:BinOp}{t:TypeId}{g:Bool}{ks:List SK}{f:Bool}(h:zU P i t=some (g,ks,f)):zT i=some f∧dy P 12 t=some ks∧g=cZ P t∧((cZ P t=true∧P.eqGuardType P.depth t=false)∨P.underlying t=some .bool):=by
 unfold zU at h;split at h
 ·rename_i n j c a;split at h
  ·rename_i hg;obtain⟨d,hk,b⟩:=bB h;cases b;have:cZ P t=true:=by unfold cZ;rw[a]
   exact⟨c,hk,this.symm,.inl ⟨this,hg⟩⟩
  ·cases h
 ·rename_i n m e c a;split at h
  ·rename_i hg;obtain⟨d,hk,b⟩:=bB h;cases b;have:cZ P t=true:=by unfold cZ;rw[a]
   exact⟨c,hk,this.symm,.inl ⟨this,hg⟩⟩
  ·cases h
 ·rename_i n c a;obtain⟨d,hk,b⟩:=bB h;cases b;have:cZ P t=false:=by unfold cZ;rw[a]
  exact⟨c,hk,this.symm,.inr a⟩
 ·cases h
theorem Vy{l:BinOp}{t Z:TypeId}{p q:Operand}{x y:X}{I:Bool}{ks:List SK}{g:Bool}(z:o.op= .binOp l t p q Z)(U:cX P t p=some x)(V:cX P t q=some y)(R:zU P l t=some (I,ks,g))(h:(CI.eqa I ks g x y).sem fr s=some (d,s')):bu LL P o fr s d s':=by
 have hp:p∈o.op.operands:=by rw[z];simp[Op.operands]
 have S:q∈o.op.operands:=by rw[z];simp[Op.operands]
 obtain⟨hc,rfl⟩:=dK h;obtain⟨us,c,m⟩:=aT hc;obtain⟨xv,F,A⟩:=aT c;obtain⟨vs,C,n⟩:=aT m;obtain⟨yv,H,D⟩:=aT C;obtain⟨b,hb,rfl⟩:=bB n;obtain⟨j,J,K,O⟩:=TV R;refine bu.pure fun B k a w f T=>⟨.bool (g !=b),?_,.d (RD.sc _)⟩
 unfold execOp;rw[z];refine eI ?_;rw[((bI f hp U F).key_eq (P:=P) A K).1,((bI f S V H).key_eq (P:=P) D K).1];have i:(Op.equal t (valC P t us) (valC P t vs)).run P w= .ok b w:=zV 12 10000 t ks a8 J w us vs b hb;rcases O with⟨e,Q⟩|e
 ·obtain⟨xs,E⟩: ∃xs,valC P t us= .agg xs:=by
   unfold cZ at e;unfold Bb.valC;split at e
   ·rename_i c;rw[c];exact⟨_,rfl⟩
   ·rename_i c;rw[c];exact⟨_,rfl⟩
   ·cases e
  obtain⟨ys,G⟩: ∃xs,valC P t vs= .agg xs:=by
   unfold cZ at e;unfold Bb.valC;split at e
   ·rename_i c;rw[c];exact⟨_,rfl⟩
   ·rename_i c;rw[c];exact⟨_,rfl⟩
   ·cases e
  rw[E,G]at i⊢;cases l<;>simp[zT]at j<;>subst j<;>simp[eqGuard,binOp,Op.stringOp,bF,Q,i,Result.andThen,go_sem]
 ·have r:ks=[.b]:=by
   have:=J;unfold dy at this;rw[e]at this;dsimp only at this;split at this
   ·exact(aJ this).symm
   ·cases this
  subst r;obtain⟨W,Y⟩:=qZ hb
  match us,vs,W,Y,hb,i with
  |[u],[v],_,_,hb,i=>
   have c:valC P t [u]=u:=by unfold Bb.valC;rw[e];rfl
   have C:valC P t [v]=v:=by unfold Bb.valC;rw[e];rfl
   rw[c,C]at i⊢;unfold bx at hb;split at hb<;>first|(cases hb;done)|skip
   all_goals first
    |(rename_i L M N;cases L;done)
    |(rename_i L M N;cases M;cases N;cases l<;>simp[zT]at j<;>subst j<;>simp[eqGuard,binOp,bF,i,Result.andThen,go_sem])
theorem VR{t:TypeId}{p:Operand}{x:X}(g:o.op= .unOp .not t p)(j:cX P 0 p=some x)(h:(CI.not x).sem fr s=some (d,s')):bu LL P o fr s d s':=by
 have hp:p∈o.op.operands:=by rw[g];simp[Op.operands]
 obtain⟨hc,rfl⟩:=dK h;obtain⟨b,hb,rfl⟩:=bB hc;obtain⟨l,f,e⟩:=aT hb;refine bu.pure fun B k a w c i=>⟨.bool !b,?_,.d (RD.sc _)⟩
 unfold execOp;rw[g];refine eI ?_;rw[(bI c hp j f).sc_eq (AV.bool_sc e)];simp[Op.unary]
theorem qS{α:Type}(sz:Nat): ∀(n:Nat) (l:List α),(chunk sz n l).length=n
 |0,_=>rfl
 |n+1,l=>by simp[chunk,qS sz n]
theorem su{α:Type}(sz:Nat): ∀(n:Nat) (l:List α),l.length=n*sz→(chunk sz n l).flatten=l∧ ∀r∈chunk sz n l,r.length=sz
 |0,l,h=>by
  obtain rfl:l=[]:=fK (by simpa using h);exact⟨rfl,by simp[chunk]⟩
 |n+1,l,h=>by
  rw[fe]at h;obtain⟨b,c⟩:=su sz n (l.drop sz) (by simp;omega);refine⟨by rw[chunk,fL,b,ji],fun r a=> ?_⟩;rw[chunk]at a;rcases bM.1 a with rfl|a
  ·simp;omega
  ·exact c r a
theorem M4{j:UnOp}{t:TypeId}{p:Operand}{x:X}(i:o.op= .unOp j t p)(m:cX P 0 p=some x)(h:(CI.un j x).sem fr s=some (d,s')):bu LL P o fr s d s':=by
 have hp:p∈o.op.operands:=by rw[i];simp[Op.operands]
 obtain⟨hc,rfl⟩:=dK h;obtain⟨u,hb,f⟩:=aT hc;obtain⟨n,g,e⟩:=aT hb;obtain⟨r,c,rfl⟩:=bB f;refine bu.pure fun B k a w b l=>⟨r,?_,.d (RD.sc _)⟩
 unfold execOp;rw[i];refine eI ?_;rw[(bI b hp m g).sc_eq e];unfold yB at c;split at c
 ·obtain rfl:=aJ c;simp[Op.unary,Op.intArith,go_sem]
 ·obtain rfl:=aJ c;simp[Op.unary,Op.intBits,go_sem]
 ·cases c
theorem a2v{k:aU}{w:World}{v:Value}{x:AV}{b:Bool}(h:RA k w v x)(hb:mw x=some b): ∃a n c,v= .slice a n c∧(b=true→a=none)∧(b=false→ ∃e,a=some e):=by
 have d: ∀{sz:Nat} {r:List D} {rows:List (List D)},RD k.I w v (.sl sz (r::rows))→ ∃a n c,v= .slice a n c∧(false=true→a=none)∧(false=false→ ∃e,a=some e):=fun h=>by
  obtain⟨a,c,us,rfl,i,j,l,m,f⟩:=h.sl_inv;obtain⟨b,off,ha,_⟩:=f (by simp);exact⟨a,_,c,rfl,fun h=>Bool.noConfusion h,fun _=>⟨_,ha⟩⟩
 unfold mw at hb;split at hb
 ·cases hb;rw[h.nil_inv];exact⟨none,0,0,rfl,fun _=>rfl,fun h=>Bool.noConfusion h⟩
 ·cases hb;obtain⟨b,c,hb,g,_,_⟩:=h.win_inv;exact⟨_,_,c,g,fun h=>Bool.noConfusion h,fun _=>⟨_,rfl⟩⟩
 ·cases hb;exact d h.d_inv
 ·cases hb;exact d h.tsl_inv.1
 ·cases hb
theorem VG{r:BinOp}{t H:TypeId}{p q:Operand}{x:X}{i:Bool}(m:o.op= .binOp r t p q H)(g:G9 P r t q=some i)(G:cX P t p=some x)(h:(CI.isn i x).sem fr s=some (d,s')):bu LL P o fr s d s':=by
 have hp:p∈o.op.operands:=by rw[m];simp[Op.operands]
 obtain⟨hc,rfl⟩:=dK h;obtain⟨b,hb,rfl⟩:=bB hc;obtain⟨v,F,l⟩:=aT hb;unfold G9 at g;split at g
 ·rename_i e E;refine bu.pure fun B k a w j D=>⟨.bool (i !=b),?_,.d (RD.sc _)⟩
  obtain⟨u,n,c,A,y,z⟩:=a2v (bI j hp G F) l;unfold execOp;rw[m];refine eI ?_;have C:a.eval (.const (.slice none 0 0))= .slice none 0 0:=rfl;have f:(Op.equal t (.slice u n c) (.slice none 0 0)).run P w= .ok b w:=by
   show(Op.equalIn (9999+1) t _ _).run P w=_;unfold Op.equalIn;simp only[bF,run_underlying E,bL];cases b with
   |true=>rw[y rfl];rfl
   |false=>obtain⟨a0,rfl⟩:=z rfl;rfl
  rw[A,C];split at g
  ·obtain rfl:=aJ g;simp only[eqGuard,binOp,bF,f,bL,bZ];simp[bZ,bF,bL,f]
  ·obtain rfl:=aJ g;simp only[eqGuard,binOp,bF,f,bL,bZ];simp[bZ,bF,bL,f]
  ·cases g
 ·cases g
theorem LZ{mx:Bool}{p q:Operand}{t z:TypeId}{x y:X}(f:o.op= .call {callee:= .builtin (if mx then .max else .min),args:= #[p,q],argTypes:= #[t,z]})(D:cX P t p=some x)(E:cX P z q=some y)(h:(CI.mm mx x y).sem fr s=some (d,s')):bu LL P o fr s d s':=by
 have hp:p∈o.op.operands:=by rw[f];simp[Op.operands,Call.operands]
 have A:q∈o.op.operands:=by rw[f];simp[Op.operands,Call.operands]
 obtain⟨hc,rfl⟩:=dK h;obtain⟨u,g,hc⟩:=aT hc;obtain⟨J,j,g⟩:=aT g;obtain⟨v,i,hc⟩:=aT hc;obtain⟨K,l,i⟩:=aT i;obtain⟨r,c,rfl⟩:=bB hc;refine bu.pure fun B k a w b C=>⟨r,?_,.d (RD.sc _)⟩
 unfold execOp;rw[f];unfold LM at c;split at c
 ·rename_i F H G I;split at c
  ·rename_i e;subst e;obtain rfl:=aJ c;have m:=(bI b hp D j).sc_eq g;have n:=(bI b A E l).sc_eq i;cases mx
   ·simp[resolve,invoke,builtin,Builtin.min_,Builtin.min2,m,n,bF,bZ,bL]
   ·simp[resolve,invoke,builtin,Builtin.max_,Builtin.max2,m,n,bF,bZ,bL]
  ·cases c
 ·cases c
theorem El{I:Nat→Nat}{w:World}{v:Value}{sz:Nat}{rows:List (List D)}(h:RD I w v (.sl sz rows)): ∃a c,v= .slice a rows.length c:=by
 obtain⟨a,c,us,b,_⟩:=h.sl_inv;exact⟨a,c,b⟩
def TW(P:Program)(t:TypeId)(kd:Nat):Prop:=match kd with
 |0=> ∃e,P.underlying t=some (.slice e)
 |1=>P.underlying t=some .string
 |2=> ∃k e,P.underlying t=some (.map k e)
 |_=>False
theorem Gb{t:TypeId}{kd:Nat}{p:Operand}{x:X}(y:o.op= .call {callee:= .builtin .len,args:= #[p],argTypes:= #[t]})(r:TW P t kd)(O:cX P t p=some x)
  (h:(CI.len kd x).sem fr s=some (d,s')):bu LL P o fr s d s':=by
 have hp:p∈o.op.operands:=by rw[y];simp[Op.operands,Call.operands]
 obtain⟨hc,rfl⟩:=dK h;obtain⟨v,N,C⟩:=aT hc;obtain⟨n,g,rfl⟩:=bB C;refine bu.pure fun B k a w z E=>⟨.int .i64 n,?_,.d (RD.sc _)⟩
 have l:=bI z hp O N;have q: ∀(i:Option Addr) (m c:Nat),kd=0→a.eval p= .slice i m c→n=m→(execOp a.eval o).run P w= .ok (.value (.int .i64 n)) w:=fun i m c L A M=>by
  subst L;subst M;obtain⟨e,r⟩:=r;unfold execOp;rw[y];simp only[resolve,invoke,builtin,bF,bZ,bL,s9,bV,e8,A];simp[Builtin.len_,run_underlying r,goInt]
 unfold fu at g;split at g
 ·obtain rfl:=aJ g;obtain⟨i,c,f⟩:=El l.d_inv;exact q i _ c rfl f rfl
 ·obtain rfl:=aJ g;obtain⟨i,c,f⟩:=El l.tsl_inv.1;exact q i _ c rfl f rfl
 ·obtain rfl:=aJ g;exact q none 0 0 rfl l.nil_inv rfl
 ·obtain rfl:=aJ g;obtain⟨i,A⟩:=l.emp_inv;exact q i 0 0 rfl A rfl
 ·obtain rfl:=aJ g;obtain⟨⟨i,c,f⟩,_⟩:=l.vec_inv;exact q i _ c rfl f rfl
 ·obtain rfl:=aJ g;obtain⟨b,c,_,f,_⟩:=l.win_inv;exact q _ _ c rfl f rfl
 ·obtain rfl:=aJ g;obtain⟨⟨i,c,f⟩,_⟩:=l.vwn_inv;exact q i _ c rfl f rfl
 ·obtain rfl:=aJ g;rename_i b;have j:P.underlying t=some .string:=r;unfold execOp;rw[y];simp only[resolve,invoke,builtin,bF,bZ,bL,s9,bV,e8,l.sc_eq (u:= .string b) rfl];simp[Builtin.len_,run_underlying j,goInt]
 ·rename_i id;obtain⟨Q,es,D,rfl⟩:=LF g;obtain⟨kt,et,j⟩:=r;obtain⟨b,hb,F⟩:=l.mp_inv;obtain⟨R,G,I,H,J,K,_⟩:=E.map D;rw[hb]at H;cases H;unfold execOp;rw[y];simp only[resolve,invoke,builtin,bF,bZ,bL,s9,bV,e8,F];simp[Builtin.len_,run_underlying j,goInt,getObj,Sem.run,J,K.1]
 ·obtain rfl:=aJ g;obtain⟨kt,et,j⟩:=r;unfold execOp;rw[y];simp only[resolve,invoke,builtin,bF,bZ,bL,s9,bV,e8,l.sc_eq (u:= .map none) rfl];simp[Builtin.len_,run_underlying j,goInt]
 ·cases g
theorem IE{k:aU}{w:World}{a:Act}(c:jm k w a o fr){q:Option Operand}(g: ∀p,q=some p→p∈o.op.operands){y:Option X}(d:jv P 0 q=some y){b:Nat}{n:Int}(e:oT fr b y=some n):
  (q=none∧n=b)∨ ∃p,q=some p∧a.eval p= .int .i64 n:=by
 cases q with
 |none=>simp[jv]at d;subst d;simp[oT]at e;exact .inl ⟨rfl,e.symm⟩
 |some p=>
  unfold jv at d;obtain⟨x,i,rfl⟩:=dt.1 d;obtain⟨v,h,f⟩:=aT e;exact .inr ⟨p,rfl,(bI c (g p rfl) i h).sc_eq (AV.int_sc f)⟩
theorem Rj{k:aU}{w:World}{a:Act}(b:jm k w a o fr){q:Option Operand}(f: ∀p,q=some p→p∈o.op.operands){y:Option X}(c:jv P 0 q=some y){n:Option Int}(d:oU fr y=some n):
  (q=none∧n=none)∨ ∃p m,q=some p∧n=some m∧a.eval p= .int .i64 m:=by
 cases q with
 |none=>simp[jv]at c;subst c;simp[oU]at d;exact .inl ⟨rfl,d.symm⟩
 |some p=>
  unfold jv at c;obtain⟨x,h,rfl⟩:=dt.1 c;obtain⟨m,hm,rfl⟩:=bB d;obtain⟨v,g,e⟩:=aT hm;exact .inr ⟨p,m,rfl,rfl,(bI b (f p rfl) h g).sc_eq (AV.int_sc e)⟩
theorem Hi{w:World}{k:aU}{a:Act}(c:jm k w a o fr){lo hi:Option Operand}(d: ∀q,lo=some q→q∈o.op.operands)(f: ∀q,hi=some q→q∈o.op.operands){l p:Option X}(s:jv P 0 lo=some l)(y:jv P 0 hi=some p){n:Int}{e:Option Int}(t:oT fr 0 l=some n)(hm:oU fr p=some e)
  (g:Bool) {len cap:Nat} (r:len≤cap) (v:0≤n) (j:n≤e.getD len) (x:e.getD len≤len):(Instr.sliceBounds g len cap (lo.map a.eval) (hi.map a.eval) none).run P w= .ok (n.toNat,(e.getD len).toNat,cap) w:=by
 have r2: ∀m b,n≤(m:Nat)→(Instr.sliceBound (.int .i64 n) m b).run P w= .ok n.toNat w:=fun m b h=>run_sliceBound w .i64 n m _ v h;rcases Rj c f y hm with⟨rfl,rfl⟩|⟨q,m,rfl,rfl,he⟩
 ·rcases IE c d s t with⟨rfl,rfl⟩|⟨q',rfl,he'⟩
  ·simp[Instr.sliceBounds]
  ·have i: ∀b,(Instr.sliceBound (.int .i64 n) len b).run P w= .ok n.toNat w:=fun b=>r2 len b (by simpa using j);simp[Instr.sliceBounds,he',i]
 ·simp only[ek]at j x⊢;have u: ∀b,(Instr.sliceBound (.int .i64 m) cap b).run P w= .ok m.toNat w:=fun b=>run_sliceBound w .i64 m cap _ a8 a8;have i: ∀b,(Instr.sliceBound (.int .i64 n) m.toNat b).run P w= .ok n.toNat w:=fun b=>r2 m.toNat b a8;rcases IE c d s t with⟨rfl,rfl⟩|⟨q',rfl,he'⟩
  ·simp[Instr.sliceBounds,he,u]
  ·simp[Instr.sliceBounds,he,he',u,i]
theorem VX{t e:TypeId}{j:TypeInfo}{p:Operand}{lo hi:Option Operand}{x:X}{l h2:Option X}(ho:o.op= .slice t p lo hi none)(hu:P.underlying t=some (.slice e))(hj:P.info? e=some j)(hx:cX P 0 p=some x)(hl:jv P 0 lo=some l)(hh:jv P 0 hi=some h2)
  (h:(CI.slc j.size x l h2).sem fr s=some (d,s')):bu LL P o fr s d s':=by
 have hp:p∈o.op.operands:=by rw[ho];simp[Op.operands]
 have a7: ∀q,lo=some q→q∈o.op.operands:=fun q hq=>by rw[ho,hq];simp[Op.operands]
 have a5: ∀q,hi=some q→q∈o.op.operands:=fun q hq=>by rw[ho,hq];simp[Op.operands]
 obtain⟨hc,rfl⟩:=dK h;obtain⟨v,hv,a2⟩:=aT hc;obtain⟨n,hn,a3⟩:=aT a2;obtain⟨mo,hm,G⟩:=aT a3;refine bu.pure fun B k a w I Z=> ?_;have hr:=bI I hp hx hv;have r: ∀(U:Option Addr) (len c:Nat),a.eval p= .slice U len c→len≤c→0≤n→n≤mo.getD len→mo.getD len≤len→
   (execOp a.eval o).run P w= .ok (.value (.slice (if c=n.toNat then U else U.map (·.add (n.toNat*j.size))) ((mo.getD len).toNat-n.toNat) (c-n.toNat))) w:=fun U len c h1 a1 A C D=>by
  have hb:=Hi (P:=P) (w:=w) I a7 a5 hl hh hn hm true a1 A C D;unfold execOp;rw[ho];refine eI ?_;simp only[Instr.sliceAt,Instr.slice,h1,pT,bF,run_underlying hu,bL,hb,sizeOf,typeInfo,run_program,hj,bZ]
 have H: ∀(b off c:Nat),¬c=n.toNat→(if c=n.toNat then(some (⟨b,off,none⟩:Addr))else Option.map (fun x=>Addr.add x (n.toNat*j.size)) (some ⟨b,off,none⟩))=some ⟨b,off+n.toNat*j.size,none⟩:=fun b off c hne=>by
  rw[if_neg hne];simp only[eZ,fi]
 unfold pD at G;split at G
 ·rename_i id m a0;obtain⟨⟨sz,ds⟩,K,f⟩:=aT G;obtain⟨e',M,T,z⟩:=iw K;dsimp only at f;split at f
  ·rename_i i;obtain⟨⟨rfl,rfl,c0⟩,A,C,D⟩:=i;obtain rfl:=aJ f;obtain⟨_,u,n',hk,a6,L⟩:=hr.vec_inv;obtain⟨u2,n2,xs,J,g2,g3,V,g5⟩:=Z.vec M;rw[hk]at J;cases J;have O:m=n':=by
    rw[z]at V;exact kX T V
   subst O;rcases g2.2 with⟨_,h9⟩|⟨g,cap,cur,y,_,_,Q,Y,_⟩
   ·omega
   ·have F:=(L rfl).trans y;refine⟨_,r _ m cap F Q A C D,?_⟩;unfold maxLen at Y;rw[H g 0 cap a8,aw];exact .vwn ⟨_,_,rfl⟩ ⟨u,m,hk,bk _,fun _=>⟨g,_,by rw[y];congr 1;omega,rfl,by omega,by omega⟩⟩
  ·cases f
 ·rename_i id N off m a0;obtain⟨⟨sz,ds⟩,K,f⟩:=aT G;obtain⟨e',M,T,z⟩:=iw K;dsimp only at f;split at f
  ·rename_i i;obtain⟨⟨rfl,rfl,c0⟩,A,C,D⟩:=i;obtain rfl:=aJ f;obtain⟨_,u,n',hk,a6,L⟩:=hr.vwn_inv;obtain⟨u2,n2,xs,J,g2,g3,V,g5⟩:=Z.vec M;rw[hk]at J;cases J;have O:N=n':=by
    rw[z]at V;exact kX T V
   subst O;obtain⟨b,c,a9,y,Q,Y⟩:=L rfl;refine⟨_,r _ m c y Q A C D,?_⟩;rw[H b (off*j.size) c a8,←fe];exact .vwn ⟨_,_,rfl⟩ ⟨u,N,hk,bk _,fun _=>⟨b,_,by rw[a9];congr 1;omega,rfl,by omega,by omega⟩⟩
  ·cases f
 ·rename_i id off m a0;split at G
  ·rename_i i;obtain⟨⟨rfl,c0⟩,A,C,D⟩:=i;obtain rfl:=aJ G;obtain⟨b,c,hb,y,J,g2⟩:=hr.win_inv;refine⟨_,r _ m c y J A C D,?_⟩;have a4: ¬c=n.toNat:=by omega
   rw[if_neg a4];have:Option.map (fun x=>Addr.add x (n.toNat*j.size)) (some (⟨b,off,none⟩:Addr))=some ⟨b,off+n.toNat*j.size,none⟩:=by
    simp only[eZ,fi]
   rw[this];exact .win hb a8 a8
  ·cases G
 ·obtain⟨rows,S,f⟩:=aT G;split at f
  ·rename_i i;obtain⟨A,C,D⟩:=i;obtain rfl:=aJ f;have E:=hr.slA S;obtain⟨U,c,F⟩:=El E;rw[F]at E;have R:=E.sl_part (lo:=n.toNat) (hi:=(mo.getD rows.length).toNat) a8 a8;have W:rows.length≤c:=by
    obtain⟨a',c',us,e1,_,e3,_⟩:=E.sl_inv;cases e1;exact e3
   exact⟨_,r U rows.length c F W A C D,.d R⟩
  ·cases f
theorem VZ{t e:TypeId}{j:TypeInfo}{p m:Operand}{lo hi:Option Operand}{x:X}(A:o.op= .slice t p lo hi (some m))(C:(isZero m&&hi.any isZero&&lo.all isZero)=true)(I:P.underlying t=some (.slice e))(G:P.info? e=some j)(K:cX P 0 p=some x)
  (h:(CI.slz j.size x).sem fr s=some (d,s')):bu LL P o fr s d s':=by
 have hp:p∈o.op.operands:=by rw[A];simp[Op.operands]
 obtain⟨hc,rfl⟩:=dK h;obtain⟨v,J,i⟩:=aT hc;obtain⟨rows,f,rfl⟩:=bB i;refine bu.pure fun B k a w g H=> ?_;obtain⟨E,c,r⟩:=El ((bI g hp K J).slA f);have z: ∀q:Operand,isZero q=true→a.eval q= .int .i64 0:=fun q l=>by
  unfold isZero at l;split at l
  ·rfl
  ·cases l
 simp only[er]at C;obtain⟨⟨L,z2⟩,z3⟩:=C;cases hi with
 |none=>simp at z2
 |some hi=>
  have u:=z m L;have y:=z hi (by simpa using z2);have D: ∀(n:Nat) b,(Instr.sliceBound (.int .i64 0) n b).run P w= .ok 0 w:=fun n b=>by
   have:=run_sliceBound (P:=P) w .i64 0 n b a8 a8;simpa using this
  refine⟨.slice E 0 0,?_,.emp⟩;have hb:(Instr.sliceBounds true rows.length c (lo.map a.eval) (some (a.eval hi)) (some (a.eval m))).run P w= .ok (0,0,0) w:=by
   cases lo with
   |none=>simp[Instr.sliceBounds,u,y,D]
   |some lo=>
    have F:=z lo (by simpa using z3);simp[Instr.sliceBounds,u,y,F,D]
  unfold execOp;rw[A];refine eI ?_;simp only[Instr.sliceAt,Instr.slice,r,eZ,bF,run_underlying I,bL,hb,sizeOf,typeInfo,run_program,G,bZ,if_true,jl]
theorem M3{t e:TypeId}{n:Nat}{j:TypeInfo}{p:Operand}{lo hi:Option Operand}{x:X}{l G:Option X}(H:o.op= .slice t p lo hi none)(E:P.underlying t=some (.array n e)∨ ∃A,P.underlying t=some (.pointer A)∧P.underlying A=some (.array n e))(Y:P.info? e=some j)(hx:cX P 0 p=some x)(hl:jv P 0 lo=some l)(hh:jv P 0 hi=some G)
  (a0:n≤9223372036854775807) (h:(CI.sla n j.size x l G).sem fr s=some (d,s')):bu LL P o fr s d s':=by
 have hp:p∈o.op.operands:=by rw[H];simp[Op.operands]
 have O: ∀q,lo=some q→q∈o.op.operands:=fun q S=>by rw[H,S];simp[Op.operands]
 have N: ∀q,hi=some q→q∈o.op.operands:=fun q S=>by rw[H,S];simp[Op.operands]
 obtain⟨hc,rfl⟩:=dK h;obtain⟨v,hv,J⟩:=aT hc;obtain⟨m,hm,K⟩:=aT J;obtain⟨z,Q,r⟩:=aT K;have F: ∀{k:aU} {a:Act} {w:World} (b off:Nat),jm k w a o fr→a.eval p= .pointer (some ⟨b,off,none⟩)→(m<n∧0≤m∧m≤z.getD n∧z.getD n≤n)→
   (execOp a.eval o).run P w= .ok (.value (.slice (some ⟨b,off+m.toNat*j.size,none⟩) ((z.getD n).toNat-m.toNat) (n-m.toNat))) w:=by
  intro k a w b off c y f;obtain⟨c0,U,V,W⟩:=f;have C:=Hi (P:=P) (w:=w) c O N hl hh hm Q false (len:=n) (cap:=n) (bk _) U V W;have hne: ¬n=m.toNat:=by omega
  unfold execOp;rw[H];refine eI ?_;rcases E with E|⟨A,E,hua⟩
  ·simp only[Instr.sliceAt,Instr.sureAddr,y,pT,bF,run_underlying E,bL,C,sizeOf,typeInfo,run_program,Y,bZ,if_neg hne,fi]
  ·simp only[Instr.sliceAt,Instr.slice,y,pT,bF,run_underlying E,run_underlying hua,bL,asAddr,C,sizeOf,typeInfo,run_program,Y,bZ,if_neg hne,fi]
 unfold yf at r;split at r
 ·rename_i id off;split at r
  ·rename_i f;obtain rfl:=aJ r;refine bu.pure fun B k a w c T=> ?_;obtain⟨b,hb,y⟩:=(bI c hp hx hv).ptr_inv;exact⟨_,F b off c y f,.win hb a8 a8⟩
  ·cases r
 ·rename_i ds;split at r
  ·rename_i f;obtain⟨f,Z⟩:=f;obtain rfl:=aJ r;refine bu.pure fun B k a w c T=> ?_;have hr:=(bI c hp hx hv).d_inv;generalize R:a.eval p=pv at hr;cases hr with
   |ref b off us _ h1 G h3 h4=>
    refine⟨_,F b off c R f,.d ?_⟩;obtain⟨c0,U,V,W⟩:=f;have h5:db k.I w ((us.drop (m.toNat*j.size)).take (((z.getD n).toNat-m.toNat)*j.size)) ((ds.drop (m.toNat*j.size)).take (((z.getD n).toNat-m.toNat)*j.size)):=(db.drop ⟨h1,G,h4⟩ _).take _;have D:((ds.drop (m.toNat*j.size)).take (((z.getD n).toNat-m.toNat)*j.size)).length=((z.getD n).toNat-m.toNat)*j.size:=by
     have h6:m.toNat*j.size+((z.getD n).toNat-m.toNat)*j.size≤n*j.size:=by
      rw[←fe];exact iP _ a8
     simp;omega
    obtain⟨L,M⟩:=su j.size _ _ D;refine RD.sl_mk (qS ..) M a8 a8 (by rw[L];exact h5) fun _=>⟨b,_,rfl,fun i u g=> ?_⟩
    rw[eY]at g;split at g
    ·rw[fm]at g;rw[kW];exact h3 _ u g
    ·cases g
  ·cases r
 ·cases r
theorem VY{t:TypeId}{p:Operand}{lo hi:Option Operand}{x:X}{l C:Option X}(g:o.op= .slice t p lo hi none)(J:P.underlying t=some .string)(L:cX P 0 p=some x)(H:jv P 0 lo=some l)(G:jv P 0 hi=some C)
  (h:(CI.sls x l C).sem fr s=some (d,s')):bu LL P o fr s d s':=by
 have hp:p∈o.op.operands:=by rw[g];simp[Op.operands]
 have y: ∀q,lo=some q→q∈o.op.operands:=fun q A=>by rw[g,A];simp[Op.operands]
 have u: ∀q,hi=some q→q∈o.op.operands:=fun q A=>by rw[g,A];simp[Op.operands]
 obtain⟨hc,rfl⟩:=dK h;obtain⟨b,hb,j⟩:=aT hc;obtain⟨v,K,i⟩:=aT hb;obtain⟨m,hm,n⟩:=aT j;obtain⟨M,z,f⟩:=aT n;unfold H9 at f;split at f
 ·rename_i r;obtain⟨D,E,F⟩:=r;obtain rfl:=aJ f;refine bu.pure fun B k a w c I=>⟨_,?_,.d (RD.sc _)⟩
  have e:=Hi (P:=P) (w:=w) c y u H G hm z false (len:=b.size) (cap:=b.size) (bk _) D E F;unfold execOp;rw[g];refine eI ?_;simp only[Instr.sliceAt,Instr.slice,(bI c hp L K).sc_eq (AV.str_sc i),pT,bF,run_underlying J,bL,e,bZ];simp;rw[e];rfl
 ·cases f
theorem Vx{c dst:TypeId}{k k':IntKind}{p:Operand}{x:X}(g:o.op= .convert c dst p)(i:P.underlying c=some (.int k'))(j:P.underlying dst=some (.int k))(r:cX P c p=some x)(h:(CI.cnv k x).sem fr s=some (d,s')):bu LL P o fr s d s':=by
 have hp:p∈o.op.operands:=by rw[g];simp[Op.operands]
 obtain⟨hc,rfl⟩:=dK h;obtain⟨u,m,b⟩:=aT hc;obtain⟨v,q,f⟩:=aT m;split at b
 ·rename_i y n;obtain rfl:=aJ b;refine bu.pure fun B t a w e l=>⟨.int k (k.wrap n),?_,.d (RD.sc _)⟩
  unfold execOp;rw[g];refine eI ?_;simp only[convert,bF,run_underlying i,run_underlying j,bL,(bI e hp r q).sc_eq f,Conv.intToInt,bZ]
 ·cases b
theorem IZ: ∀{ts:List TypeId} {ps:List Operand} {xs:List X},jx P ts ps=some xs→ ∀(i:Nat) (x:X),xs[i]?=some x→ ∃p t,ps[i]?=some p∧cX P t p=some x
 |_,[],xs,h=>by simp[jx]at h;subst h;simp
 |ts,p::ps,xs,h=>by
  unfold jx at h;split at h
  ·rename_i x d b c;obtain rfl:=aJ h;intro i y a;cases i with
   |zero=>simp at a;subst a;exact⟨p,_,rfl,b⟩
   |succ i=>exact IZ c i y (by simpa using a)
  ·cases h
theorem IY: ∀{ts:List TypeId} {ps:List Operand} {xs:List X},jx P ts ps=some xs→xs.length=ps.length
 |_,[],xs,h=>by simp[jx]at h;subst h;rfl
 |ts,p::ps,xs,h=>by
  unfold jx at h;split at h
  ·rename_i x b c a;obtain rfl:=aJ h;simp[IY a]
  ·cases h
theorem JS: ∀{xs:List X} {vs:List AV},j4 fr xs=some vs→vs.length=xs.length∧ ∀(i:Nat) (v:AV),vs[i]?=some v→ ∃x,xs[i]?=some x∧x.ev fr=some v
 |[],vs,h=>by simp[j4]at h;subst h;simp
 |x::xs,vs,h=>by
  obtain⟨v,d,b⟩:=aT (show((x.ev fr).bind fun v=>(j4 fr xs).map (v:: ·))=some vs from h);obtain⟨g,c,rfl⟩:=bB b;obtain⟨e,f⟩:=JS c;refine⟨by simp[e],fun i y a=> ?_⟩;cases i with
  |zero=>simp at a;subst a;exact⟨x,rfl,d⟩
  |succ i=>exact f i y (by simpa using a)
theorem Fm{k:aU}{w:World}{a:Act}(b:jm k w a o fr){ts:List TypeId}{ps:List Operand}{xs:List X}(g:jx P ts ps=some xs)(d: ∀p∈ps,p∈o.op.operands){vs:List AV}(m:j4 fr xs=some vs):fW k w (ps.map a.eval) vs:=by
 obtain⟨n,q⟩:=JS m;refine⟨by simp[n,IY g],fun i u c f hc=> ?_⟩;obtain⟨x,h,j⟩:=q i c hc;obtain⟨p,t,e,l⟩:=IZ g i x h;rw[dL,e]at f;obtain rfl:=aJ f;exact bI b (d p (bX e)) l j
theorem VK{f:FuncId}{ps j:Array Operand}{xs n:List X}(e:o.op= .makeFunc (.func f) ps j)(t:jx P [] ps.toList=some xs)(u:jx P [] j.toList=some n)(h:(CI.mkf f xs n).sem fr s=some (d,s')):bu LL P o fr s d s':=by
 obtain⟨hc,rfl⟩:=dK h;obtain⟨us,g,c⟩:=aT hc;obtain⟨vs,i,rfl⟩:=bB c;refine bu.pure fun B k a w b r=> ?_;have l:=Fm b t (fun p hp=>by rw[e];simp only[Op.operands];simp at hp⊢;exact .inl hp) g;have m:=Fm b u (fun p hp=>by rw[e];simp only[Op.operands];simp at hp⊢;exact .inr hp) i
 refine⟨.func (.func f) (ps.toList.map a.eval).toArray (j.toList.map a.eval).toArray,?_,.clo l.1 m.1 l.2 m.2⟩;unfold execOp;rw[e];refine eI ?_;have q: ∀(ps:Array Operand),ps.map a.eval=(ps.toList.map a.eval).toArray:=fun ps=>by apply Array.ext';simp
 simp only[Instr.makeFunc,q,bZ]
theorem EB{t:TypeId}{us:List Value}(b: ∀u∈us,u.oneCell'=true)(k:aU)(w:World):bO k w us (nC P t us):=by
 refine⟨by simp[nC],b,fun i u d c a=> ?_⟩;unfold nC at a;simp only[dL,List.getElem?_zipIdx,aw]at a;rw[c]at a;simp at a;subst a;exact zq ..
theorem Kk: ∀(vs:List Value) (j off:Nat) (cs:Array Value),off+j+vs.length≤cs.size→((vs.zipIdx j).foldl (fun(cs:Array Value) (x:Value×Nat)=>cs.setIfInBounds (off+x.2) x.1) cs).toList=cs.toList.take (off+j)++vs++cs.toList.drop (off+j+vs.length)
 |[],j,off,cs,h=>by simp
 |v::vs,j,off,cs,h=>by
  simp only[aY]at h;rw[List.zipIdx_cons,gD,Kk vs (j+1) off _ (by simp;omega)];have a:off+j<cs.toList.length:=by simp;omega
  rw[Array.toList_setIfInBounds];refine iX fun i=> ?_;simp only[bj,jg,eY,fm,eP,ck,jh,aY,List.getElem?_cons,aR]
  repeat' split
  all_goals first
   |rfl
   |omega
   |(congr 1;omega)
   |(exfalso;omega)
   |(simp_all;done)
   |(rename_i b c d;simp at*;omega)
theorem zX{k:aU}{w:World}{a:Act}(g:jm k w a o fr){e:Nat→Option (Nat×Nat)}{F:Nat→TypeId}: ∀{ps:List (Nat×Operand)} {q:List (Nat×Nat×X)} {b:Array Value} {cs f:List AV},
  qQ P e F ps=some q→(∀x∈ps,x.2∈o.op.operands)→bO k w b.toList cs→kh fr cs q=some f→
  ∃d,Instr.fill e b (ps.map fun x=>(x.1,a.eval x.2))=some d∧bO k w d.toList f
 |[],q,b,cs,f,j,_,h3,h4=>by
  simp[qQ]at j;subst j;simp[kh]at h4;subst h4;exact⟨b,rfl,h3⟩
 |(i,p)::ps,q,b,cs,f,j,h2,h3,h4=>by
  unfold qQ at j;split at j
  ·rename_i off size x l' v y z;obtain rfl:=aJ j;unfold kh at h4;obtain⟨vs,u,r⟩:=aT h4;split at r
   ·rename_i C;obtain⟨c,s,t⟩:=aT u;have hcells:=(bI g (h2 (i,p) (by simp)) y s).cells t;have m:(a.eval p).cells.size=size:=by have:=hcells.1;simp at this;omega
    have D:b.size=cs.length:=by have:=h3.1;simpa using this
    have h:=Kk (a.eval p).cells.toList 0 off b (by simp[m];omega);simp only[aE,gz,m]at h;have n:bO k w ((((a.eval p).cells.toList.zipIdx 0).foldl (fun(cs:Array Value) (x:Value×Nat)=>cs.setIfInBounds (off+x.2) x.1) b)).toList (cs.take off++vs++cs.drop (off+size)):=by
     rw[h];exact((h3.take off).append hcells).append (h3.drop _)
    obtain⟨d,A,B⟩:=zX g z (fun x E=>h2 x (by simp[E])) n r;refine⟨d,?_,B⟩;have l:((decide ((a.eval p).cells.size≠size))||decide (off+(a.eval p).cells.size>b.size))=false:=by simp[m];omega
    simp only[bV,Instr.fill,v,l,jU,if_false];rw[←A];congr 1;rw[←Array.foldl_toList];simp
   ·cases r
  ·cases j
theorem HQ{k:aU}{w:World}{us:List Value}{l:List AV}(fz:Bool)(h:bO k w us l):bO k w us (yJ fz l):=by
 unfold yJ;split
 ·exact h.datA
 ·exact h
theorem Vs{fz:Bool}{t:TypeId}{c:Array (Nat×Operand)}{z:List AV}{G:List (Nat×Nat×X)}(F:o.op= .build t c)(hc:uK P fz t c.toList=some (.bld z G))(h:(CI.bld z G).sem fr s=some (d,s')):bu LL P o fr s d s':=by
 obtain⟨H,rfl⟩:=dK h;obtain⟨r,q,rfl⟩:=bB H;have g: ∀x∈c.toList,x.2∈o.op.operands:=fun x J=>by
  rw[F];simp only[Op.operands];simp;exact⟨x.1,by simpa using J⟩
 refine bu.pure fun B k a w i I=> ?_;have key: ∃b,P.built t (c.toList.map fun x=>(x.1,a.eval x.2))=some b∧bO k w b.toList r:=by
  unfold uK at hc;split at hc
  ·rename_i K L l m;split at hc
   ·rename_i z0 places D A;split at hc
    ·rename_i f;obtain⟨E,C,v⟩:=dt.1 hc;cases v;obtain⟨b,p,j⟩:=zX (a:=a) i C g (HQ fz (EB (P:=P) (t:=t) (fun u m=>rX.1 f u (by simpa using m)) k w)) q;exact⟨b,by unfold Program.built;simp only[l,m,D,A];exact p,j⟩
    ·cases hc
   ·cases hc
  ·rename_i K n e l m;split at hc
   ·rename_i z0 M D y;split at hc
    ·rename_i f;obtain⟨E,C,v⟩:=dt.1 hc;cases v;obtain⟨b,p,j⟩:=zX (a:=a) i C g (HQ fz (EB (P:=P) (t:=t) (fun u m=>rX.1 f u (by simpa using m)) k w)) q;exact⟨b,by unfold Program.built;simp only[l,m,D,y];exact p,j⟩
    ·cases hc
   ·cases hc
  ·cases hc
 obtain⟨b,p,j⟩:=key;refine⟨.agg b,?_,?_⟩
 ·unfold execOp;rw[F];refine eI (run_build w t _ b ?_);rw[←p];simp
 ·have:b=b.toList.toArray:=by simp
  rw[this];exact RA.aggA (.agg j.1 j.2.1 j.2.2)
end
end Go.Bb
