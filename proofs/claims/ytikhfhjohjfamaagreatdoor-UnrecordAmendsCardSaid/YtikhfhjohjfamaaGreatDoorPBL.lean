/- Lemmas. -/
import Derived.Test.YtikhfhjohjfamaaGreatDoorPBK
set_option linter.unusedVariables false
set_option linter.unusedSimpArgs false
set_option maxRecDepth 100000
namespace Go.Proofs.Lh
open Go Go.Ab Go.Bb Go.RowKit Go.Proofs.Lg
theorem Yt{P:Program}(w:World)(t o e:TypeId)(i:TypeInfo)(z:Value)(k x:IntKind)(s:P.underlying t=some (.slice e))(l:P.underlying o=some (.int x))(hi:P.info? e=some i)(v:i.zero=some z)(base:Option Addr)(a b:Nat)(c:List Value)
  (h:(Builtin.firstCells i.size a (.slice base a b)).run P w.drew= .ok c.toArray w.drew) (m:Nat) (h0:0<m) (A:0<i.size) (hg:b<a+m) (q:((a+m:Nat):Int)<=9223372036854775807) (n:Builtin.nextslicecap (a+m) b*i.bytes<=281474976710656) (p:m*i.bytes<=281474976710656) (y:TypeId):
  (Builtin.append_ #[t,o] y #[.slice base a b,.int k m]).run P w=
   .ok (.slice (some ⟨w.heap.size,0,none⟩) (a+m) (grownCap w (a+m) b e)) (w.drew.alloc (.cells (c.toArray++Builtin.zeroCells z.cells m++Builtin.zeroCells z.cells (grownCap w (a+m) b e-(a+m))) e)):=by
 have r: ¬(a+m<=b):=by omega
 have u:IntKind.i64.wrap (m:Int)=m:=by rw[IntKind.wrap_i64];omega
 have f: ¬(9223372036854775807<((a:Int)+(m:Int))):=by omega
 have d: ¬(281474976710656<Builtin.nextslicecap (a+m) b*i.bytes):=by omega
 have h48i: ¬(281474976710656<(m:Int)*(i.bytes:Int)):=by
  rw[<-Int.natCast_mul];omega
 have g: ¬((m:Int)<0):=by omega
 have j: ¬(m*i.size=0):=Nat.mul_ne_zero a8 a8;simp[Builtin.append_,run_underlying s,run_underlying l,sizeOf,typeInfo,zeroValue,hi,v,asInt,asIntOf,u,r,g,j,f,d,h48i,Question.forced,h,newRow,grownCap]
set_option maxHeartbeats 4000000 in
set_option maxRecDepth 100000 in
theorem Ot(w:World)(g n i h cv S:Nat)(cur c:Array Value)(us news:List Value)(hi:i<n)(a5:n<=1000000)(b6:h≠g)(hg:w.heap[g]?=some (.cells cur 71 (0,0)))(U:cur.size=n*37)(G:cur.toList.take (n*37)=us)(J: ∀u∈us,u.oneCell'=true)
  (hh:w.heap[h]?=some (.cells c 71 (0,0))) (hc2s:c.size=S*37) (hc2p:1<=S) (l:c.toList.take 37=news) (y: ∀u∈news,u.oneCell'=true):
  Calls Tryz.prog 118 #[.slice (some ⟨g,0,none⟩) n n,.int .i64 i,.slice (some ⟨h,0,none⟩) 1 cv] w λe w'=> ∃q A,n+1<=q/\q<=maxLen/\e= .returned (.slice (some ⟨w.heap.size,0,none⟩) (n+1) q)/\
   w'.heap[w.heap.size]?=some (.cells A 71 (0,0))/\A.size=q*37/\A.toList.take ((n+1)*37)=us.take (i*37)++news++us.drop (i*37)/\w.grownBy w' none/\w.heap.size<w'.heap.size:=by
 obtain⟨m,z,o,E,hz,a1,a4,a6,H⟩:=By;have f:us.length=n*37:=by rw[<-G,cC,ic,U];omega
 have p:news.length=37:=by rw[<-l,cC,ic,hc2s];omega
 have D:(us.drop (i*37)).length=(n-i)*37:=by rw[ax,f];omega
 have a2:g<w.heap.size:=(gy.1 hg).1;have a3:h<w.heap.size:=(gy.1 hh).1;have W:w.drew.heap[g]?=some (.cells cur 71 (0,0)):=hg;have x:(Builtin.firstCells m.size i (.slice (some ⟨g,0,none⟩) i n)).run Tryz.prog w.drew= .ok (us.take (i*37)).toArray w.drew:=
  run_firstCells_some w.drew m.size i ⟨g,0,none⟩ i n (us.take (i*37)) (by rw[E,cC,f];omega) (λj v d=>by
    rw[fW,aw,cell_of_row _ g _ cur _ _ W];rw[fL,<-G]at d;split at d
    .rw[fL]at d;split at d
     .simpa using d
     .cases d
    .cases d)
 have a:=Yt (P:=Tryz.prog) w 23 3 71 m z .i64 .i64 Tryz.underlying23 Tryz.underlying3 o hz (some ⟨g,0,none⟩) i n (us.take (i*37)) x (n+1-i) a8 a8 a8 a8
   (growslice_fits a8 (by
    have h1:(i+(n+1-i))*m.bytes<=(i+(n+1-i))*1000:=Nat.mul_le_mul_left _ H;omega)) (by
    have h1:(n+1-i)*m.bytes<=(n+1-i)*1000:=Nat.mul_le_mul_left _ H;omega)
 have M:(((n+1-i:Nat)):Int)=(n:Int)+1-i:=by omega
 rw[M]at a;have Z:i+(n+1-i)=n+1:=by omega
 rw[Z]at a;have X:=grownCap_ge w (n+1) n 71;have Y:grownCap w (n+1) n 71<=maxLen:=grownCap_le_maxLen _ _ _ _ (by unfold maxLen;omega);have r:((us.take (i*37)).toArray++Builtin.zeroCells z.cells (n+1-i)++Builtin.zeroCells z.cells (grownCap w (n+1) n 71-(n+1))).size=grownCap w (n+1) n 71*37:=by
  simp only[Array.size_append,me,size_zeroCells,a1,cC,f];omega
 have C:((us.take (i*37)).toArray++Builtin.zeroCells z.cells (n+1-i)++Builtin.zeroCells z.cells (grownCap w (n+1) n 71-(n+1))).toList.take (i*37)=us.take (i*37):=by
  simp only[qH];rw[bk,xI (by rw[cC,f];omega)]
 generalize grownCap w (n+1) n 71=q at a X Y r C;generalize((us.take (i*37)).toArray++Builtin.zeroCells z.cells (n+1-i)++Builtin.zeroCells z.cells (q-(n+1)))=R at a r C;have h2:(w.drew.alloc (.cells R 71)).heap[w.heap.size]?=some (.cells R 71 (0,0)):=heap_alloc_new w.drew (.cells R 71)
 have N:(w.drew.alloc (.cells R 71)).heap[g]?=some (.cells cur 71 (0,0)):=(Go.Lib.alloc_old w.drew _ g a2).trans hg;have O:(w.drew.alloc (.cells R 71)).heap[h]?=some (.cells c 71 (0,0)):=(Go.Lib.alloc_old w.drew _ h a3).trans hh;have b:w.grownBy (w.drew.alloc (.cells R 71)) none:=⟨rfl,rfl,rfl,by simp,λk hk _=>Below.heap_alloc w.drew _ k (by simpa using hk)⟩
 have a0:(w.drew.alloc (.cells R 71)).heap.size=w.heap.size+1:=by simp
 generalize w.drew.alloc (.cells R 71)=w2 at a h2 N O b a0;have T: ∀Q K,(Builtin.copy_ #[23,22] Q #[.slice (some ⟨w.heap.size,i*37,none⟩) (n+1-i) K,.slice (some ⟨h,0,none⟩) 1 cv]).run Tryz.prog w2= .ok (goInt (1:Nat)) (w2.setRow (w.heap.size) (R.toList.take (i*37)++news++R.toList.drop (i*37+news.length)).toArray):=λQ K=>
  Ct (P:=Tryz.prog) _ 23 22 Q 71 m Tryz.underlying23 o (w.heap.size) (i*37) (n+1-i) K R 71 h2 ⟨h,0,none⟩ 1 cv 1 news (by simp only[Nat.min_def];split<;>omega) (by rw[E,p])
   (λj u d=>by
    rw[fW,aw,cell_of_row _ h _ c _ _ O];rw[<-l,fL]at d;split at d
    .simpa using d
    .cases d) y (by rw[p,r];omega)
 have hA1s:(R.toList.take (i*37)++news++R.toList.drop (i*37+news.length)).length=q*37:=by
  simp only[aQ,cC,ax,ic,p,r];omega
 have hA1t:(R.toList.take (i*37)++news++R.toList.drop (i*37+news.length)).take ((i+1)*37)=us.take (i*37)++news:=by
  rw[C,xI (by rw[aQ,cC,f,p];omega)]
 generalize R.toList.take (i*37)++news++R.toList.drop (i*37+news.length)=A1 at T hA1s hA1t;have h3:=setRow_heap w2 (w.heap.size) R A1.toArray 71 (0,0) h2;have V:(w2.setRow (w.heap.size) A1.toArray).drew.heap[g]?=some (.cells cur 71 (0,0)):=(setRow_other w2 _ g _ a8).trans N
 have I: ∀Q K sc,(Builtin.copy_ #[23,23] Q #[.slice (some ⟨w.heap.size,(i+1)*37,none⟩) (n-i) K,.slice (some ⟨g,i*37,none⟩) (n-i) sc]).run Tryz.prog (w2.setRow (w.heap.size) A1.toArray).drew= .ok (goInt (n-i:Nat)) ((w2.setRow (w.heap.size) A1.toArray).drew.setRow (w.heap.size) (A1.toArray.toList.take ((i+1)*37)++us.drop (i*37)++A1.toArray.toList.drop ((i+1)*37+(us.drop (i*37)).length)).toArray):=λQ K sc=>
  Ct (P:=Tryz.prog) (w2.setRow (w.heap.size) A1.toArray).drew 23 23 Q 71 m Tryz.underlying23 o (w.heap.size) ((i+1)*37) (n-i) K A1.toArray 71 h3 ⟨g,i*37,none⟩ (n-i) sc (n-i) (us.drop (i*37)) (by simp) (by rw[E];exact D)
   (λj u d=>by
    rw[fW,cell_of_row _ g _ cur _ _ V];rw[gf,<-G,fL]at d;split at d
    .simpa using d
    .cases d) (λu hu=>J u (vv hu)) (by rw[D,me,hA1s];omega)
 have hA2s:(A1.toArray.toList.take ((i+1)*37)++us.drop (i*37)++A1.toArray.toList.drop ((i+1)*37+(us.drop (i*37)).length)).toArray.size=q*37:=by
  simp only[me,aQ,cC,ax,f,hA1s];omega
 have L:(A1.toArray.toList.take ((i+1)*37)++us.drop (i*37)++A1.toArray.toList.drop ((i+1)*37+(us.drop (i*37)).length)).toArray.toList.take ((n+1)*37)=us.take (i*37)++news++us.drop (i*37):=by
  show(A1.take ((i+1)*37)++us.drop (i*37)++A1.drop ((i+1)*37+(us.drop (i*37)).length)).take ((n+1)*37)=_;rw[hA1t];exact xI (by simp only[aQ,cC,f,p,D];omega)
 generalize(A1.toArray.toList.take ((i+1)*37)++us.drop (i*37)++A1.toArray.toList.drop ((i+1)*37+(us.drop (i*37)).length)).toArray=A2 at I hA2s L;have s:(((w2.setRow (w.heap.size) A1.toArray).drew.setRow (w.heap.size) A2)).heap[w.heap.size]?=some (.cells A2 71 (0,0)):=setRow_heap _ _ _ _ _ (0,0) h3
 have t:w.grownBy ((w2.setRow (w.heap.size) A1.toArray).drew.setRow (w.heap.size) A2) none:=by
  refine⟨b.os,b.tape,b.output,?_,λk hk _=> ?_⟩
  .rw[setRow_size];show w.heap.size<=(w2.setRow (w.heap.size) A1.toArray).heap.size;rw[setRow_size];omega
  .rw[setRow_other _ _ k _ a8];show(w2.setRow (w.heap.size) A1.toArray).heap[k]?=_;rw[setRow_other _ _ k _ a8];exact b.block k hk (by simp)
 have B:w.heap.size<((w2.setRow (w.heap.size) A1.toArray).drew.setRow (w.heap.size) A2).heap.size:=(gy.1 s).1;have F:=Go.Lib.hid (And.intro s (And.intro hA2s (And.intro L (And.intro t B))));clear s hA2s L t B h3 V hA1s hA1t h2 N O b a0 r C G l J y D f p U hc2s hg hh o E hz a1 a4 W x
 have c1: ¬((i:Int)=(n:Int)):=by omega
 have b8:IntKind.i64.wrap ((i:Int)+1)=(i:Int)+1:=by rw[IntKind.wrap_i64];omega
 have b9:IntKind.i64.wrap ((n:Int)+1)=(n:Int)+1:=by rw[IntKind.wrap_i64];omega
 have c0:IntKind.i64.wrap ((n:Int)+1-i)=(n:Int)+1-i:=by rw[IntKind.wrap_i64];omega
 have b1:(0:Int)<=(i:Int)+1:=by omega
 have b7:i<=n:=by omega
 have b0:((i:Int)+1).toNat=i+1:=by omega
 have b2: ¬(q=i+1):=by omega
 have b3:(i:Int)<=(n:Int)+1:=by omega
 have b4: ¬(q=i):=by omega
 have b5: ¬(n=i):=by omega
 have a7:(n:Int)<(n:Int)+1:=by omega
 have a9:i<=n+1:=by omega
 have mixed:Tryz.prog.follows Departure.mixedOrders=true:=by kernel_rfl
 go_enter Tryz.func118,Tryz.ntmps118
 go_wp2_with (at_builtin;refine Go.Lib.wpList_append_run _ rfl _ _ _ _ rfl _ _ rfl rfl _ _ (a _) ?_)
 go_region_law_o (refine N4 rfl _ _ 23 23 rfl _ _ (by simp[Act.eval,Act.put]) (by simp[Act.eval,Act.put]) (I _ _ _) ?_)
 go_wp2
 all_goals(go_ret;exact⟨q,A2,X,Y,rfl,F.out⟩)
end Go.Proofs.Lh
namespace Go.Proofs.Q
open Go Go.Bb Go.RowKit Go.Proofs.Lg
open Go.Ab (D RD)
theorem BA{b:bb}(h:isName b=true):b.size<=40:=by
 unfold isName at h;simp only[dW,decide_eq_true_eq]at h;omega
theorem Su{b:bb}(h:mF b=true):b.size<=1000:=by
 unfold mF at h;simp only[dW,decide_eq_true_eq]at h;omega
theorem JX: ∀{l:List bb},mH l=0-> ∀s∈l,mF s=true
 |[],_,s,a=>by cases a
 |x::l,h,s,a=>by
  rw[mH]at h;split at h
  .rename_i b;rcases bF.1 a with rfl|a
   .exact b
   .exact JX h s a
  .cases h
theorem SR{l:List bb}(h:pb l=0): ∀s∈l,mF s=true:=by
 unfold pb at h;split at h
 .cases h
 split at h
 .cases h
 exact JX h
theorem E9{c:az}(h:fm c=0):Dl c:=by
 have b:=(nY h).2.2;unfold fm at h;split at h
 .cases h
 split at h
 .cases h
 split at h
 .cases h
 split at h
 .cases h
 rename_i e;split at h
 .cases h
 split at h
 .cases h
 rename_i g;refine⟨λa=> ?_,by omega,λd s f=> ?_⟩
 .have:isName c.name=true:=by
   cases hi:isName c.name with
   |true=>rfl
   |false=>exact absurd ⟨a,hi⟩ e
  have:=BA this;omega
 .have:=Su (SR (b d) s f);omega
theorem sQ:maxLen<=9223372036854775807:=by decide
theorem Ox{p:aU}(h:mg p):Af p where
 author:=ez h.author sQ
 chg:=λc hc=>⟨⟨ez (h.chg c hc).name sQ,λs a=>ez ((h.chg c hc).line s a) sQ⟩,ez (h.chg c hc).over sQ⟩
theorem D8{p:aU}(h:mg p):oD p.changes:=⟨ez h.changes sQ,λc hc=>ez (h.chg c hc).over sQ⟩
theorem Dh{p:aU}(h:mg p){b:Nat}(hb: ∀c∈p.changes,20+c.lines.length+3*c.over.length<=b)(j:b*p.changes.length<=19000):bS p:=by
 refine⟨Ox h,λhc=> ?_⟩;obtain⟨e,f,a,_,d,g,_⟩:=jx hc;have hg:eX 6 (jQ p):=Ej (by have:=BA d;omega) a8 λc hc=>E9 (a c hc);have i:=Tx p b hb;refine⟨by omega,by omega,λc hc=>⟨(nY (a c hc)).1.1,(nY (a c hc)).1.2,by have:=ym (a c hc);omega,by have:=we (a c hc);omega⟩,hg,by omega,?_⟩
 have:=IF 6 _ hg;omega
theorem S3{l:List bb}(h:wk l=false):l.length<=40:=by
 unfold wk at h;simp only[Bool.or_eq_false_iff,decide_eq_false_iff_not]at h;omega
theorem Jt: ∀{l:List az} {n m:Int},sI l n=some m-> ∀c∈l,c.lines.length<=40/\c.over.length<=40
 |[],_,_,_,c,hc=>by cases hc
 |x::l,n,m,h,c,hc=>by
  rw[sI]at h;split at h
  .cases h
  rename_i a;rcases bF.1 hc with rfl|hc
  .refine⟨S3 (by cases hg:wk c.lines with|false=>rfl|true=>exact absurd (.inl hg) a),by omega⟩
  .exact Jt h c hc
theorem Bs{p:aU}(h:lH p=false):p.deps.length<=20/\p.changes.length<=20/\ ∀c∈p.changes,c.lines.length<=40/\c.over.length<=40:=by
 unfold lH at h;split at h
 .cases h
 .rename_i m hm;simp only[Bool.or_eq_false_iff,decide_eq_false_iff_not]at h;exact⟨by omega,by omega,Jt hm⟩
theorem Di{p:aU}(h:mg p)(hg:lH p=false):bS p:=by
 obtain⟨_,d,a⟩:=Bs hg;exact Dh h (b:=180) (λc hc=>by have:=a c hc;omega) a8
theorem Jx{a:Nat}: ∀{s:ar} {i:Nat} {n m:Int},sJ a s i n=some m->s.length+i<=a+1-> ∀x∈s,lH x.pat=false
 |[],_,_,_,_,_,x,b=>by cases b
 |y::s,i,n,m,h,hl,x,b=>by
  rw[aY]at hl;rw[sJ,if_pos a8]at h;split at h
  .cases h
  rename_i c;rcases bF.1 b with rfl|b
  .simpa using c
  .exact Jx h a8 x b
theorem Bt{s:ar}(h:qb s=false):s.length<=8/\ ∀x∈s,lH x.pat=false:=by
 unfold qb wq at h;split at h
 .cases h
 .rename_i m hm;simp only[Bool.or_eq_false_iff,decide_eq_false_iff_not]at h;exact⟨by omega,Jx hm a8⟩
theorem GR{s:ar}(h:u0 s)(hg:qb s=false):gh s/\ ∀x∈s,oD x.pat.changes:=by
 obtain⟨c,b⟩:=Bt hg;exact⟨⟨by omega,λx a=>Di (h.pat x a) (b x a)⟩,λx a=>D8 (h.pat x a)⟩
theorem HW: ∀l:List Dg,(dJ l).length<=l.length
 |[]=>bg _
 |[x]=>bg _
 |x::y::r=>by
  have:=HW (y::r);rw[dJ];split
  .simp only[aY]at*;omega
  .simp only[aY]at*;omega
theorem GP{p:aU}(hg:lH p=false):db p:=by
 obtain⟨_,b,a⟩:=Bs hg;exact⟨by omega,λc hc=>by have:=a c hc;omega⟩
theorem wg{α β:Type}(f:α->List β)(k:Nat): ∀l:List α,(∀x∈l,(f x).length<=k)->(l.flatMap f).length<=l.length*k
 |[],_=>by simp
 |x::l,h=>by
  have b:=h x (by simp);have c:=wg f k l λy a=>h y (by simp[a]);rw[jt,aQ,aY,fQ];omega
theorem Tr{p:aU}(hc:gj p=0)(hg:lH p=false):(bu p).length<=100000:=by
 obtain⟨d,e,b⟩:=Bs hg;rw[<-Ks hc];refine ez (HW _) ?_;rw[lj];unfold BV;rw[aQ];have:=wg ry 100 p.changes λc a=>by
  unfold ry;rw[aM];refine ez (xE _ _) ?_;have f:=FM c;have:=b c a;omega
 omega
theorem J7{s:ar}(h:u0 s)(a:o8 aq s=true):gh s/\s.length<=1000/\ ∀x∈s,(bS x.pat/\db x.pat)/\(bu x.pat).length<=100000:=by
 have hg:qb s=false:=by unfold o8 at a;simp at a;exact a.1
 have e:dm aq s:=mw aq (by unfold o8 at a;simp at a;exact a.2);obtain⟨f,c⟩:=Bt hg;refine⟨(GR h hg).1,by omega,λx b=>⟨⟨Di (h.pat x b) (c x b),GP (c x b)⟩,Tr ?_ (c x b)⟩⟩;have:=(e.id x b).1;unfold bj at this;unfold gj;by_cases d:(cQ x.pat).2≠0
 .rw[if_pos d]at this;exact absurd this d
 .exact fX d
theorem F7(A B:List az)(x y:az)(o:Nat)(a:o=A.length*139):ba (lD (A++x::B)) o 139 ((aR y).map .d)=some (lD (A++y::B)):=by
 unfold lD;refine df (A:=(A.map aR).flatten) (B:=aR x) (C:=(B.map aR).flatten) (by simp) ?_ (dV x) (dV y) (by simp);rw[a,Go.Ab.flatten_len (sz:=139) _ λr b=>by obtain⟨x,_,rfl⟩:=bM.1 b;exact dV x,aM]
theorem PW(l:List az)(b:l.length<=1000):lU 139 l.length (lD l)=some (.d (.sl 139 (l.map aR))):=by
 unfold lU;rw[if_pos ⟨Q3 l,by omega⟩];unfold lD;rw[Nj,eY];have:=vR 139 (l.map aR) λr a=>by obtain⟨x,_,rfl⟩:=bM.1 a;exact dV x
 rw[aM]at this;rw[this]
theorem EP(p:aU):(bu p).length<=161700:=by
 unfold bu;split
 .simp
 .rename_i h;obtain⟨i,j,f,_⟩:=jx (vQ (p:=p) (by simpa using h));have b: ∀(r l:List Dg),(gZ r l).length<=l.length+r.length:=by
   intro r
   induction r with
   |nil=>intro l;exact bg _
   |cons d r a=>intro l;rw[gZ];have:=a (lY l d);have:=CU l d;rw[aY];omega
  have e: ∀(r:List az) (l:List Dg),(∀c∈r,fm c=0)->(oq r l).length<=l.length+404*r.length:=by
   intro r
   induction r with
   |nil=>intro l _;exact bg _
   |cons c r a=>
    intro l hc;rw[oq];have:=a (nL (iV c) l) λx g=>hc x (er _ g);have:=NF (iV c) l;have:=ym (hc c (by simp));have:(iV c).length=c.over.length+4:=rfl;rw[aY];omega
  have:=b p.deps [];have:=e p.changes (gZ p.deps []) f;simp at*;omega
end Go.Proofs.Q
