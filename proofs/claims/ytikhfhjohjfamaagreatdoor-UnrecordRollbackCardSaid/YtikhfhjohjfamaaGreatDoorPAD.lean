/- Lemmas. -/
import Derived.Test.YtikhfhjohjfamaaGreatDoorPAC
import Derived.Lib.ConvBytes
import Derived.Laws.BytesArg
set_option linter.unusedVariables false
set_option linter.unusedSimpArgs false
set_option maxRecDepth 100000
namespace Go.Bb
open Go Go.RowKit Go.Ab Go.Proofs.Lg
section
variable {LL:Nat->Code->CC->Prop} {P:Program} {o:Oper} {fr:Fr} {s s':List aa} {d:AV}
theorem RA.hdl_own{k:aP}{w:World}{u:Value}{v:AV}{id:Nat}(h:RA k w u v)(a:v.hdl=some id): ∃o,k.own[id]?=some o/\o≠ .hole:=by
 cases h with
 |ptr h=>cases a;exact⟨_,h,λh=>by cases h⟩
 |vec d c=>cases a;obtain⟨u,n,b,_⟩:=c;exact⟨_,b,λh=>by cases h⟩
 |vptr h=>cases a;obtain⟨u,n,b,_⟩:=h;exact⟨_,b,λh=>by cases h⟩
 |win d c b=>cases a;exact⟨_,d,λh=>by cases h⟩
 |vwn d c=>cases a;obtain⟨u,n,b,_⟩:=c;exact⟨_,b,λh=>by cases h⟩
 |mp h=>cases a;exact⟨_,h,λh=>by cases h⟩
 |_=>cases a
theorem RA.no_hole{B:Nat}{k:aP}{w:World}(a:St LL B k s w){u:Value}{v:AV}{id:Nat}(h:RA k w u v)(e:v.hdl=some id):id<s.length/\s[id]? ≠some .hole:=by
 obtain⟨o,b,c⟩:=h.hdl_own e;refine⟨by have:=(aV.1 b).1;rw[a.len]at this;exact this,λd=> ?_⟩;have:=a.hole_own d;rw[b]at this;exact c (aJ this)
theorem xR{B:Nat}{k:aP}{w:World}{s2:List aa}(a:St LL B k s2 w)(ha:gx s s2){u:Value}{v:AV}{id:Nat}(h:RA k w u v)(f:v.hdl=some id){o:aa}(b:s[id]?=some o):s2[id]?=some o:=by
 obtain⟨c,d⟩:=h.no_hole a f;rcases ha id (aV.1 b).1 c with e|e
 .exact e.trans b
 .exact absurd e d
def jq(a:Nat->Code->CC->Prop)(P:Program)(o:Oper)(fr:Fr)(s:List aa)(d:AV)(b:List aa):Prop:=
 ∃x,b=s++x/\ ∀s2,gx s s2->iy s2 s.length x.length->bA a P o fr s2 d (fill s2 s.length x)
theorem jq.op(h:jq LL P o fr s d s'):bA LL P o fr s d s':=by
 obtain⟨x,rfl,a⟩:=h;have:=a s (gx.refl s) (iy.end' s _);rw[um]at this;exact this
theorem IS{α:Type}{l:List α}(n:Nat):fill l n []=l:=by
 unfold fill;simp
theorem Hm{B:Nat}{k:aP}{w:World}(c:St LL B k s w){n:Nat}(g:iy s n 1){a:Array Value}{cs:List AV}{t:TypeId}(hc:bZ k w a.toList cs):
  ∃k',RA k' (w.alloc (.cells a t)) (.pointer (some ⟨w.heap.size,0,none⟩)) (.ptr n 0)/\Ext B k w k' (w.alloc (.cells a t))/\St LL B k' (fill s n [.cells cs]) (w.alloc (.cells a t)):=by
 have hb:Below w.heap.size w (w.alloc (.cells a t)):=(Below.refl _ _).alloc (bg _) _;have f:(w.alloc (.cells a t)).heap[w.heap.size]?=some (.cells a t (0,0)):=heap_alloc_new w _;have d:w.heap.size<(w.alloc (.cells a t)).heap.size:=(gy.1 f).1;have h: ∀b,b<w.heap.size->dE k.I w.heap.size 0 b=k.I b:=λb hb=>ix _ _ a8
 obtain⟨i,e⟩:=c.newAt hb h g (.blk w.heap.size) (.cells cs) (λb hb=>by cases hb;exact⟨bg _,d⟩) λhm=>⟨t,a.toList,by simpa using f,hc.mono hm,gE ..⟩
 exact⟨_,.ptr (pZ c g _),i,e⟩
theorem TF{t:TypeId}{p:Operand}{x:X}(f:o.op= .box t p)(l:cX P t p=some x)(h:(CI.box x).sem fr s=some (d,s')):jq LL P o fr s d s':=by
 have hp:p∈o.op.operands:=by rw[f];simp[Op.operands]
 obtain⟨cs,c,g⟩:=bK h;obtain⟨rfl,rfl⟩:=fC g;obtain⟨v,j,hc⟩:=aT c;refine⟨[.cells cs],rfl,λs2 _ i=> ?_⟩;intro B k a w b e;obtain⟨k',m,n,q⟩:=Hm e i (t:=t) ((bU b hp l j).cells hc);refine dY.value ?_ ⟨k',m,n,q⟩;unfold execOp;rw[f];refine fh ?_;simp only[Instr.box,newVar,newRow,bP,cJ,run_newObj,bV]
 rfl
theorem Tz{t:TypeId}{i:TypeInfo}{z:Value}{c:AV}(m:o.op= .alloc t)(hi:P.info? t=some i)(p:i.zero=some z)(hc:cA P t z=some c)(h:(CI.box (.c c)).sem fr s=some (d,s')):jq LL P o fr s d s':=by
 obtain⟨cs,e,j⟩:=bK h;obtain⟨rfl,rfl⟩:=fC j;obtain⟨v,n,b⟩:=aT e;obtain rfl:=aJ n;refine⟨[.cells cs],rfl,λs2 _ l=> ?_⟩;intro B k a w g f;obtain⟨k',q,r,u⟩:=Hm f l (t:=t) ((AA hc k w).cells b);refine dY.value ?_ ⟨k',q,r,u⟩;unfold execOp;rw[m];refine fh ?_
 simp only[Instr.alloc,zeroValue,typeInfo,newVar,newRow,bP,cJ,run_newObj,bV,run_program,hi,p];rfl
theorem TA{t:TypeId}{i:TypeInfo}{z:Value}{c:AV}(u:o.op= .alloc t)(hi:P.info? t=some i)(x:i.zero=some z)(hc:cA P t z=some c)(h:(CI.bxt t (.c c)).sem fr s=some (d,s')):jq LL P o fr s d s':=by
 obtain⟨cs,j,g⟩:=bK (show((some c).bind AV.cells).map (λcs=>(AV.ptr s.length 0,s++[aa.tcells t cs]))=some (d,s')from h);obtain⟨rfl,rfl⟩:=fC g;refine⟨[.tcells t cs],rfl,λs2 _ n=> ?_⟩;intro B k a w p f;have e:=(AA hc k w).cells j;have hb:Below w.heap.size w (w.alloc (.cells z.cells t)):=(Below.refl _ _).alloc (bg _) _
 have g:(w.alloc (.cells z.cells t)).heap[w.heap.size]?=some (.cells z.cells t (0,0)):=heap_alloc_new w _;have l:w.heap.size<(w.alloc (.cells z.cells t)).heap.size:=(gy.1 g).1;have q: ∀b,b<w.heap.size->dE k.I w.heap.size 0 b=k.I b:=λb hb=>ix _ _ a8
 obtain⟨r,m⟩:=f.newAt hb q n (.blk w.heap.size) (.tcells t cs) (λb hb=>by cases hb;exact⟨bg _,l⟩) λhm=>⟨z.cells.toList,by simpa using g,e.mono hm,gE ..⟩
 refine dY.value (v:= .pointer (some ⟨w.heap.size,0,none⟩)) ?_ ⟨_,.ptr (pZ f n _),r,m⟩;unfold execOp;rw[u];refine fh ?_;simp only[Instr.alloc,zeroValue,typeInfo,newVar,newRow,bP,cJ,run_newObj,bV,run_program,hi,x];rfl
theorem BC{B:Nat}{k:aP}{w:World}{b:Nat}{cs:Array Value}(d:B<=b)(e:k.I b=0):jr k.I w k.I (w.setRow b cs)/\Below B w (w.setRow b cs):=by
 refine⟨λa q u c hc=>⟨c,?_⟩,rfl,rfl,rfl,by simp,λj f=>setRow_other w b j _ a8⟩;have hne:a≠b:=by rintro rfl;omega
 exact(vG (w:=w) (setRow_other w b a _ hne)).trans hc
theorem sS{k:aP}{w w':World}(h:jr k.I w k.I w'):Mono k w k w':=⟨h,λ_ o a=>⟨o,a,dM.refl o⟩⟩
theorem rz{k:aP}{id:Nat}{o:Own}(h:k.own[id]?=some o):k.own=k.own.set id o:=by
 obtain⟨b,a⟩:=aV.1 h;rw[<-a,Ac]
theorem Jp{us us' a:List Value}{off n m:Nat}(h:n<=us.length)(b:off+m<=n)(hm:a.length=m):(us.take off++a++us.drop (off+m)).take n=(us.take n).take off++a++(us.take n).drop (off+m):=by
 refine gW λr=> ?_;simp only[bk,jb,fL,gf,cC,hm]
 repeat' split
 all_goals first
  |rfl
  |omega
  |(congr 1;omega)
  |(exfalso;omega)
  |(simp_all;done)
  |(symm;apply iO;omega)
  |(apply iO;omega)
theorem Ue{t:TypeId}{i:TypeInfo}{p q:Operand}{x y:X}(ho:o.op= .store t p q)(hi:P.info? t=some i)(hx:cX P 0 p=some x)(Z:cX P t q=some y)(h:(CI.st i.size x (DT y)).sem fr s=some (d,s')):bA LL P o fr s d s':=by
 have hp:p∈o.op.operands:=by rw[ho];simp[Op.operands]
 have hq:q∈o.op.operands:=by rw[ho];simp[Op.operands]
 obtain⟨pv,a5,h1⟩:=aT (show((x.ev fr).bind λp=>(((DT y).ev fr).bind AV.cells).bind λvs=>pr s i.size vs p)=some (d,s')from h);obtain⟨vs,a6,V⟩:=aT h1;obtain⟨yv,a0,a2⟩:=aT a6;intro B k a w m v;have hr:=bU m hp hx a5;have a7:RA k w (a.eval q) yv:=by
  cases y with
  |t n=>exact bU m hq Z a0
  |c c=>obtain rfl:=aJ a0;exact(bU m hq Z (c:=c) rfl).datA
 have hcells:=a7.cells a2;have R: ∀(b off:Nat) (cur:Array Value) (ty:TypeId),a.eval p= .pointer (some ⟨b,off,none⟩)->w.heap[b]?=some (.cells cur ty (0,0))->vs.length=i.size->off+i.size<=cur.size->
   (execOp a.eval o).run P w= .ok .skip (w.setRow b (cur.toList.take off++(a.eval q).cells.toList++cur.toList.drop (off+i.size)).toArray):=λb off cur ty z U hm l=>by
  have j:(a.eval q).cells.toList.length=i.size:=by rw[hcells.1,hm]
  have N:(a.eval q).cells.size=i.size:=by simpa using j
  have Y:=run_storeCells_at P b off ty (a.eval q).cells.toList 0 cur w U a8 hcells.2.1;unfold execOp;rw[ho];refine xc ?_;have hne: ¬((a.eval q).cells.size≠i.size):=λhh=>hh N;simp only[Instr.storeAt,z,Instr.sureAddr,storeVar,sizeOf,typeInfo,bP,cJ,bV,run_program,hi,if_neg hne];rw[Y];simp[j]
 unfold pr at V;split at V
 .rename_i id off;obtain⟨cs,J,A⟩:=aT V;have D:=uf J;unfold putCells at A;split at A
  .rename_i I;obtain⟨hm,l⟩:=I;obtain⟨rfl,rfl⟩:=fC (aJ A);obtain⟨b,hb,z⟩:=hr.ptr_inv;obtain⟨b',t',us,S,U,O,gI⟩:=v.cells D;rw[hb]at S;cases S;have hl:=O.1;have r:=R b off us.toArray t' z U hm (by simp;omega);have G:=v.lies id _ b hb rfl
   obtain⟨hk,H⟩:=BC (k:=k) (w:=w) (cs:=(us.toArray.toList.take off++(a.eval q).cells.toList++us.toArray.toList.drop (off+i.size)).toArray) G.1 gI;obtain⟨he,M⟩:=v.upd (k':=k) hb (.cells (cs.take off++vs++cs.drop (off+i.size))) (rz hb) (dM.refl _) hk H (λQ C=>by cases C;exact⟨.inl rfl,by rw[setRow_size];exact G.2,G.1⟩)
    (λQ L hne=>⟨setRow_other w b Q _ (λe=>hne (by rw[e];rfl)),rfl⟩)
    ⟨t',_,setRow_heap w b _ _ t' (0,0) U,by
     have f:=sS hk;simpa using(((O.mono f).take off).append (hcells.mono f)).append ((O.mono f).drop (off+i.size)),gI⟩
   exact dY.skip r ⟨k,RA.undf,he,M⟩
  .cases A
 .rename_i id n off;obtain⟨⟨sz,ds⟩,J,A⟩:=aT V;obtain⟨e,D,N,j⟩:=jo J;have a3:mA s[id]?=e:=by rw[D];rfl
  unfold z6 at A;split at A
  .rename_i I;obtain⟨hm,l⟩:=I;obtain⟨rfl,rfl⟩:=fC (aJ A);dsimp only at l⊢;rw[a3];obtain⟨b,z,hb⟩:=hr.vptr_inv;obtain⟨u,xs,cap,cur,S,U,O,g4,g5,g6,g7,g8,g9,F,T,a9⟩:=zQ v D N j hb;have b0:n*sz<=cap*sz:=jI _ g6;have r:=R b off cur e z g5 hm a8;have K:(a.eval q).cells.toList.length=i.size:=by rw[hcells.1,hm]
   obtain⟨hk,H⟩:=BC (k:=k) (w:=w) (cs:=(cur.toList.take off++(a.eval q).cells.toList++cur.toList.drop (off+i.size)).toArray) g4 T;have E:u.ownBlock=some b:=by rw[O];rfl
   have L:b<w.heap.size:=(gy.1 g5).1;have a1:cur.toList.length=cap*sz:=by simpa using g8
   have W:(cur.toList.take off++(a.eval q).cells.toList++cur.toList.drop (off+i.size)).take (n*sz)=xs.take off++(a.eval q).cells.toList++xs.drop (off+i.size):=by
    rw[Jp (us':=[]) a8 a8 K,g9]
   have a4:(xs.take off++(a.eval q).cells.toList++xs.drop (off+i.size)).length=n*sz:=by
    have:=F.1;simp only[aQ,cC,ax,K];omega
   obtain⟨he,M⟩:=v.upd (k':=k) S (.vec e sz (ds.take off++vs++ds.drop (off+i.size))) (rz S) (dM.refl _) hk H (λQ C=>by rw[show(Own.row u n).block=some b from E]at C;cases C;exact⟨.inl E,by rw[setRow_size];exact L,g4⟩)
    (λQ L hne=>⟨setRow_other w b Q _ (λe=>hne (by rw[e];exact E)),rfl⟩)
    ⟨xs.take off++(a.eval q).cells.toList++xs.drop (off+i.size),⟨a4,.inr ⟨b,cap,_,O,g4,setRow_heap w b _ _ e (0,0) g5,g6,g7,by simp only[me,aQ,cC,ax,K,a1];omega,W⟩⟩,
     (λg hg=>by rw[E]at hg;cases hg;exact T),by simp only[aQ,cC,ax,hm];omega,by
     have f:=sS hk;simpa[bk]using(((F.mono f).take off).append (hcells.mono f)).append ((F.mono f).drop (off+i.size))⟩
   exact dY.skip r ⟨k,RA.undf,he,M⟩
  .cases A
 .cases V
theorem NA{B:Nat}{k:aP}{w:World}(p:St LL B k s w){id e sz n:Nat}{ds:List AV}(x:s[id]?=some (.vec e sz ds))(A:0<sz)(l:ds.length=n*sz){b:Nat}(hb: ∃u C,k.own[id]?=some (.row u C)/\n<=C/\(n=C->u.ownBlock=some b))
  {a:List Value} {vs:List AV} (o:bZ k w a vs) {off:Nat} (H:off+a.length<=n*sz):
  ∃cur,w.heap[b]?=some (.cells cur e (0,0))/\n*sz<=cur.size/\Ext B k w k (w.setRow b (cur.toList.take off++a++cur.toList.drop (off+a.length)).toArray)/\
   St LL B k (s.set id (.vec e sz (ds.take off++vs++ds.drop (off+a.length)))) (w.setRow b (cur.toList.take off++a++cur.toList.drop (off+a.length)).toArray):=by
 obtain⟨u,xs,cap,cur,E,O,F,q,r,G,J,K,L,d,h,I⟩:=zQ p x A l hb;have N:n*sz<=cap*sz:=jI _ G;obtain⟨hk,t⟩:=BC (k:=k) (w:=w) (cs:=(cur.toList.take off++a++cur.toList.drop (off+a.length)).toArray) q h;have c:u.ownBlock=some b:=by rw[F];rfl
 have m:b<w.heap.size:=(gy.1 r).1;have v:cur.toList.length=cap*sz:=by simpa using K
 have j:(cur.toList.take off++a++cur.toList.drop (off+a.length)).take (n*sz)=xs.take off++a++xs.drop (off+a.length):=by
  rw[Jp (us':=[]) a8 a8 rfl,L]
 have y:(xs.take off++a++xs.drop (off+a.length)).length=n*sz:=by
  have:=d.1;simp only[aQ,cC,ax];omega
 obtain⟨M,z⟩:=p.upd (k':=k) E (.vec e sz (ds.take off++vs++ds.drop (off+a.length))) (rz E) (dM.refl _) hk t (λD i=>by rw[show(Own.row u n).block=some b from c]at i;cases i;exact⟨.inl c,by rw[setRow_size];exact m,q⟩)
  (λD m hne=>⟨setRow_other w b D _ (λe=>hne (by rw[e];exact c)),rfl⟩)
  ⟨xs.take off++a++xs.drop (off+a.length),⟨y,.inr ⟨b,cap,_,F,q,setRow_heap w b _ _ e (0,0) r,G,J,by simp only[me,aQ,cC,ax,v];omega,j⟩⟩,
   (λg hg=>by rw[c]at hg;cases hg;exact h),by have:=o.1;simp only[aQ,cC,ax];omega,by
   have f:=sS hk;simpa[bk]using(((d.mono f).take off).append (o.mono f)).append ((d.mono f).drop (off+a.length))⟩
 exact⟨cur,r,by omega,M,z⟩
theorem a0y(z:Array Value): ∀n,(Builtin.zeroCells z n).toList=(List.replicate n z.toList).flatten:=by
 have a: ∀(n i:Nat),i<n*z.size->(List.replicate n z.toList).flatten[i]?=z.toList[i % z.size]? :=λn=>by
  induction n with
  |zero=>intro i hi;omega
  |succ n d=>
   intro i hi;rw[s8,gG,jb];by_cases h:i<z.toList.length
   .rw[if_pos h,xK (by simpa using h)]
   .rw[if_neg h];have b:z.size<=i:=by simpa using h
    have:=d (i-z.size) (by rw[fQ]at hi;omega);rw[ic,this,Nat.mod_eq_sub_mod b]
 intro n;refine gW λi=> ?_;by_cases hi:i<n*z.size
 .rw[a n i hi];have c:0<z.size:=by
   rcases qM z.size with e|e
   .rw[e]at hi;omega
   .exact e
  have hm:=Nat.mod_lt i c;simp[Builtin.zeroCells,hi,hm]
 .rw[iO (by simp[Builtin.zeroCells];omega),iO (by simp;omega)]
theorem RI{α:Type}(l:List α)(n:Nat):(List.replicate n l).flatten.length=n*l.length:=by
 simp[List.length_flatten]
theorem bZ.rep{k:aP}{w:World}{us:List Value}{ds:List AV}(h:bZ k w us ds): ∀n,bZ k w (List.replicate n us).flatten (List.replicate n ds).flatten
 |0=>⟨rfl,by simp,by simp⟩
 |n+1=>by
  rw[s8,s8,gG,gG];exact h.append (h.rep n)
theorem TJ{t e:TypeId}{i:TypeInfo}{z:Value}{p:Operand}{x:X}(ho:o.op= .call {callee:= .builtin .clear,args:= #[p],argTypes:= #[t]})(hu:P.underlying t=some (.slice e))(hi:P.info? e=some i)(hz:i.zero=some z)(h1:z.cells.all (·.oneCell')=true)(R:z.cells.size=i.size)
  (hx:cX P t p=some x) (h:(CI.clr i.size (pz P e z.cells.toList) x).sem fr s=some (d,s')):bA LL P o fr s d s':=by
 have hp:p∈o.op.operands:=by rw[ho];simp[Op.operands,Call.operands]
 obtain⟨xv,Q,E⟩:=aT (show(x.ev fr).bind (uT s i.size (pz P e z.cells.toList))=some (d,s')from h);intro B k a w r A;have hr:=bU r hp hx Q;unfold uT at E;split at E
 .rename_i id N off n a1;obtain⟨⟨sz,ds⟩,H,F⟩:=aT E;obtain⟨T,l,C,f⟩:=jo H;have I:mA s[id]?=T:=by rw[l];rfl
  dsimp only at F;split at F
  .rename_i G;obtain⟨⟨rfl,rfl,c1⟩,c2,c3⟩:=G;obtain⟨rfl,rfl⟩:=fC (aJ F);rw[I];obtain⟨_,u,n',hk,a0,J⟩:=hr.vwn_inv;obtain⟨u2,n2,xs,U,g2,g3,V,g5⟩:=A.vec l;rw[hk]at U;cases U;have K:N=n':=by
    rw[f]at V;exact mf C V
   subst K;obtain⟨b,c,L,O,_,_⟩:=J rfl;have M:u.ownBlock=some b:=by rw[L];rfl
   have q: ∀v∈z.cells.toList,v.oneCell'=true:=λv hv=>rW.1 h1 v (by simpa using hv);have g:bZ k w (List.replicate n z.cells.toList).flatten (List.replicate n (pz P e z.cells.toList)).flatten:=(D0 (P:=P) (t:=e) q k w).rep n;have D:(List.replicate n z.cells.toList).flatten.length=n*i.size:=by rw[RI,ic,R]
   have Z:off*i.size+n*i.size<=N*i.size:=by rw[<-fQ];exact jI _ c3
   obtain⟨cur,hh,W,Y,y⟩:=NA A l C f ⟨u,N,hk,bg _,λ_=>M⟩ g (off:=off*i.size) a8;rw[D]at Y y;have j:=run_storeCells_at P b (off*i.size) T (List.replicate n z.cells.toList).flatten 0 cur w hh a8 g.2.1;rw[aB,D]at j;refine dY.value ?_ ⟨k,.d (.sc _),Y,y⟩;unfold execOp;rw[ho];obtain⟨m,rfl⟩: ∃m,n=m+1:=⟨n-1,by omega⟩
   have S:(zeroValue e).run P w= .ok z w:=by simp[zeroValue,typeInfo,hi,hz]
   simp only[resolve,invoke,builtin,bP,cJ,bV,tU,bX,fi,O];simp[Builtin.clear_,run_underlying hu,S,a0y,j]
  .cases F
 .cases E
theorem FZ(P:Program)(g o:Nat)(t:TypeId)(fz:Nat×Nat): ∀(vs:List Value) (i:Nat) (cur:Array Value) (w:World),w.heap[g]?=some (.cells cur t fz)->(fz.2<=o+i\/cur.size<=fz.1)->o+i+vs.length<=cur.size->(∀v∈vs,v.oneCell'=true)->
  (storeCells ⟨g,o,none⟩ vs i).run P w= .ok () (w.setRow g (cur.toList.take (o+i)++vs++cur.toList.drop (o+i+vs.length)).toArray)
 |[],i,cur,w,hg,_,_,_=>by
  simp only[storeCells,bq,bc,aB,jV,Array.toArray_toList];rw[setRow_self w g cur t fz hg];rfl
 |v::rest,i,cur,w,hg,hfz,hl,h1=>by
  have hi:o+i<cur.size:=by simp at hl;omega
  have b:(⟨g,o,none⟩:Addr).add i=⟨g,o+i,none⟩:=by unfold Addr.add;split<;>simp_all
  have a:w.cell? ⟨g,o+i,none⟩=some cur[o+i]:=by simp[World.cell?,hg,hi]
  have c:w.frozen? ⟨g,o+i,none⟩=false:=by
   obtain⟨lo,f⟩:=fz;simp only[World.frozen?,hg,Bool.and_eq_false_iff,decide_eq_false_iff_not];simp only at hfz;rcases hfz with hfz|hfz
   .right;omega
   .left;omega
  have d:(store ((⟨g,o,none⟩:Addr).add i) v).run P w= .ok () (w.setRow g (cur.setIfInBounds (o+i) v)):=by
   rw[b,run_store P w _ v _ (h1 v (by simp)),a];simp[c,setCell_eq_setRow w g (o+i) cur t fz v hg]
  have j:=FZ P g o t fz rest (i+1) (cur.setIfInBounds (o+i) v) (w.setRow g (cur.setIfInBounds (o+i) v)) (setRow_heap w g cur _ t _ hg) (by simp;omega) (by simp at hl⊢;omega) (λx h=>h1 x (by simp[h]));simp only[storeCells,bP,d,bV,j,setRow_setRow];congr 3;have e:=list_seg_step cur.toList (o+i) v rest (by simp at hl⊢;omega)
  simpa[Array.toList_setIfInBounds,lq]using e
theorem Yu(w:World)(t s e:TypeId)(i:TypeInfo)(r:P.underlying t=some (.slice e))(hi:P.info? e=some i)
  (g b d:Nat) (cur:Array Value) (fz:Nat×Nat) (hg:w.heap[g]?=some (.cells cur e fz)) (n:fz.2<=b*i.size\/cur.size<=fz.1)
  (a:Addr) (m c:Nat) (news:List Value) (q:news.length=m*i.size) (f: ∀j u,news[j]?=some u->w.cell? (a.add j)=some u) (o: ∀u∈news,u.oneCell'=true)
  (h:b+m<=d) (k:b*i.size+news.length<=cur.size):
  (Builtin.append_ #[t,t] s #[.slice (some ⟨g,0,none⟩) b d,.slice (some a) m c]).run P w=
   .ok (.slice (some ⟨g,0,none⟩) (b+m) d) (w.setRow g (cur.toList.take (b*i.size)++news++cur.toList.drop (b*i.size+news.length)).toArray):=by
 have p:=run_firstCells_some (P:=P) w i.size m a m c news q f;have l:=FZ P g (b*i.size) e fz news 0 cur w hg (by simpa using n) (by simpa using k) o;simp only[aB]at l;simp[Builtin.append_,run_underlying r,sizeOf,typeInfo,hi,Builtin.lenOf,h,p,Addr.add_lit,l]
theorem Cs(w:World)(base:Nat)(t K e:TypeId)(i:TypeInfo)(z:Value)(A:P.underlying t=some (.slice e))(hi:P.info? e=some i)(O:i.zero=some z)(N:z.cells.size=i.size)
  (v:Value) (n:Nat) (xs:List Value) (a:eK w base e i.size v n xs) (x:Value) (m:Nat) (news:List Value) (J:pK w x m i.size news) (Q: ∀u∈news,u.oneCell'=true)
  (L:n+m<=9223372036854775807) (hbytes:(n+m)*i.bytes<=140737488355328) (d:base<=w.heap.size):
  ∃D w',(Builtin.append_ #[t,t] K #[v,x]).run P w= .ok D w'/\((m=0/\D=v/\w'=w)\/
   (0<m/\(eK w' base e i.size D (n+m) (xs++news)/\(w.ownsRow base e i.size v n xs->w'.ownsRow base e i.size D (n+m) (xs++news)))/\Below base w w'/\((∃g,D.ownBlock=some g/\v.ownBlock=some g/\w.grownBy w' (some g))\/(D.ownBlock=some w.heap.size/\w.heap.size<w'.heap.size/\w.grownBy w' none)))):=by
 obtain⟨a0,C,rfl⟩:=wL a;have o:=KO a;by_cases hm:m=0
 .subst hm;refine⟨_,w,?_,.inl ⟨rfl,rfl,rfl⟩⟩;obtain⟨r,⟨c,rfl,_⟩|⟨I,c,rfl,hc⟩⟩:=J
  .cases a0 with
   |none=>simp[Builtin.append_,run_underlying A,sizeOf,typeInfo,hi,Builtin.lenOf,Builtin.firstCells,o]
   |some a0=>simp[Builtin.append_,run_underlying A,sizeOf,typeInfo,hi,Builtin.lenOf,Builtin.firstCells,o,storeCells]
  .cases a0 with
   |none=>simp[Builtin.append_,run_underlying A,sizeOf,typeInfo,hi,Builtin.lenOf,Builtin.firstCells,o,loadCells,loadCellsFrom]
   |some a0=>simp[Builtin.append_,run_underlying A,sizeOf,typeInfo,hi,Builtin.lenOf,Builtin.firstCells,o,storeCells,loadCells,loadCellsFrom]
 .obtain⟨r,⟨c,_,h0⟩|⟨I,c,rfl,hc⟩⟩:=J
  .exact absurd h0 hm
  have h:(xs++news).length=(n+m)*i.size:=by rw[aQ,a.1,r,fQ]
  have p: ∀(l:Nat),l<n+m->
    (w.drew.alloc (.cells (xs.toArray++news.toArray++Builtin.zeroCells z.cells (grownCap w (n+m) l e-(n+m))) e)).ownsRow base e i.size
     (.slice (some ⟨w.heap.size,0,none⟩) (n+m) (grownCap w (n+m) l e)) (n+m) (xs++news)/\
    w.grownBy (w.drew.alloc (.cells (xs.toArray++news.toArray++Builtin.zeroCells z.cells (grownCap w (n+m) l e-(n+m))) e)) none:=by
   intro l S;have M:=grownCap_ge w (n+m) l e;have q:grownCap w (n+m) l e<=maxLen:=grownCap_le_maxLen w (n+m) l e (by unfold maxLen;exact L);refine⟨⟨h,.inr ⟨w.heap.size,_,_,rfl,d,heap_alloc_new w.drew _,M,q,?_,?_⟩⟩,⟨rfl,rfl,rfl,by simp,λk hk _=>Below.heap_alloc w.drew _ k (by simpa using hk)⟩⟩
   .simp only[Array.size_append,me,size_zeroCells,N,a.1,r,<-fQ];congr 1;omega
   .simp only[qH,bk];rw[<-bk,<-h];exact List.take_left
  rcases a.2 with⟨B,rfl⟩|⟨g,cap,cur,fz,B,hbg,hg,hnc,q,hcs,htake,hfz⟩
  .cases B;have J:xs=[]:=gV (by simpa using a.1);subst J;have G:=run_append_nil (P:=P) w t K e i z A hi O I m c news r hc a8 a8 (by have hb:=hbytes;simp only[aw]at hb;omega);have b:=p 0 a8;simp only[aw,bt,Array.empty_append]at b⊢
   exact⟨_,_,G,.inr ⟨by omega,⟨eK.of b.1,λ_=>b.1⟩,(Below.refl _ _).grown b.2 d (by simp),.inr ⟨rfl,by simp,b.2⟩⟩⟩
  .cases B;by_cases f:n+m<=C
   .have E:n*i.size+news.length<=cur.size:=by rw[r,hcs,<-fQ];exact jI _ f
    have G:=Yu (P:=P) w t K e i A hi g n C cur fz hg hfz I m c news r hc Q f E;have F:w.grownBy (w.setRow g (cur.toList.take (n*i.size)++news++cur.toList.drop (n*i.size+news.length)).toArray) (some g):=⟨rfl,rfl,rfl,by simp,λk _ hk=>setRow_other w g k _ (λe=>hk (by simp[e]))⟩
    have y:(cur.toList.take (n*i.size)++news++cur.toList.drop (n*i.size+news.length)).toArray.size=cur.size:=by
     simp only[me,aQ,cC,ax,ic];omega
    have H:(cur.toList.take (n*i.size)++news++cur.toList.drop (n*i.size+news.length)).toArray.toList.take ((n+m)*i.size)=xs++news:=by
     rw[htake,<-h];exact List.take_left
    refine⟨_,_,G,.inr ⟨by omega,⟨⟨h,.inr ⟨g,C,_,fz,rfl,hbg,setRow_heap w g cur _ e _ hg,f,q,y.trans hcs,H,?_⟩⟩,λR=>⟨h,.inr ⟨g,C,_,rfl,hbg,setRow_heap w g cur _ e _ ?_,f,q,y.trans hcs,H⟩⟩⟩,(Below.refl _ _).grown F d (by simp;exact hbg),.inl ⟨g,rfl,rfl,F⟩⟩⟩
    .rw[y];rcases hfz with hfz|hfz
     .exact .inl (ez hfz (jI _ (Nat.le_add_right n m)))
     .exact .inr hfz
    .rcases R.2 with⟨B,_⟩|⟨g',cap',cur',B,_,hg',_⟩
     .cases B
     .cases B;rw[hg]at hg';have:=aJ hg';injection this with e1 _ e3
      rw[hg,e3]
   .have s: ∀j u,xs[j]?=some u->w.cell? ((⟨g,0,none⟩:Addr).add j)=some u:=a.cells (g:=g) rfl;have G:=run_append_grow (P:=P) w t K e i z A hi O ⟨g,0,none⟩ n C xs a.1 s I m c news r hc a8 a8 (growslice_fits a8 hbytes);have b:=p C a8
    exact⟨_,_,G,.inr ⟨by omega,⟨eK.of b.1,λ_=>b.1⟩,(Below.refl _ _).grown b.2 d (by simp),.inr ⟨rfl,by simp,b.2⟩⟩⟩
theorem zt{I:Nat->Nat}{w:World}{B e sz:Nat}{v:Value}{rows:List (List D)}{xs:List Value}(h:RD I w v (.sl sz rows))(j:eK w B e sz v rows.length xs):dA I w xs rows.flatten:=by
 obtain⟨a,c,us,rfl,m,t,u,f,n⟩:=h.sl_inv;have d:=flatten_len rows m;have:xs=us:=by
  have p:us.length=rows.length*sz:=by rw[f.1,d]
  have q:xs.length=rows.length*sz:=j.1;refine gW λi=> ?_;by_cases hi:i<rows.length*sz
  .have k:us[i]?=some us[i]:=bQ a8;rw[k];rcases j.2 with⟨l,r⟩|⟨g,cap,cur,fz,l,hbg,hg,hnc,hcm,hcs,htake,hfz⟩
   .rw[r]at hi;simp at hi
   .cases l;obtain⟨b,off,hb,hc⟩:=n (by intro s;rw[s]at hi;simp at hi);cases hb;have:=(hc i _ k).2;rw[aw,cell_of_row w g i cur e fz hg]at this;have o:xs[i]?=(List.take (rows.length*sz) cur.toList)[i]? :=by rw[htake]
    rw[o,fL,if_pos hi];simpa using this
  .rw[iO a8,iO a8]
 rw[this];exact f
theorem uQ{I:Nat->Nat}{w:World}{B e sz n:Nat}{v:Value}{rows:List (List D)}{xs:List Value}(c:eK w B e sz v n xs)(j:dA I w xs rows.flatten)(f:rows.length=n)(h: ∀r∈rows,r.length=sz)
  (d: ∀g,v.ownBlock=some g->n*sz<=I g):RD I w v (.sl sz rows):=by
 rcases c.2 with⟨b,h0⟩|⟨g,cap,cur,fz,b,hbg,hg,hnc,hcm,hcs,htake,hfz⟩
 .subst b;obtain rfl:rows=[]:=gV a8;exact RD.sl_mk (us:=[]) (by simp) (by simp) a8 a8 ⟨by simp,by simp,by simp⟩ (by simp)
 .subst b;refine RD.sl_mk f h hnc (by unfold maxLen at hcm;omega) j λ_=>⟨g,0,rfl,λi u a=> ?_⟩
  have hi:=(aV.1 a).1;have k:=c.1;refine⟨by have:=d g rfl;omega,?_⟩;rw[aw,cell_of_row w g i cur e fz hg];rw[<-htake,fL]at a;split at a
  .simpa using a
  .cases a
theorem zu{I:Nat->Nat}{w:World}{v:Value}{sz:Nat}{rows:List (List D)}(h:RD I w v (.sl sz rows)): ∀r∈rows,r.length=sz:=by
 obtain⟨a,c,us,_,b,_⟩:=h.sl_inv;exact b
theorem Ah{I:Nat->Nat}{w:World}{v:Value}{sz:Nat}{rows:List (List D)}(h:RD I w v (.sl sz rows)): ∃us,pK w v rows.length sz us/\dA I w us rows.flatten:=by
 obtain⟨a,c,us,rfl,k,l,m,d,f⟩:=h.sl_inv;refine⟨us,⟨by rw[d.1,flatten_len rows k],?_⟩,d⟩;cases a with
 |none=>
  left;have:rows=[]:=by
   cases rows with
   |nil=>rfl
   |cons r rows=>obtain⟨b,off,hb,_⟩:=f (by simp);cases hb
  subst this;exact⟨c,rfl,rfl⟩
 |some i=>
  right;refine⟨i,c,rfl,λj u g=> ?_⟩;obtain⟨b,off,hb,hc⟩:=f (by intro e;subst e;have:=d.1;simp at this;subst this;simp at g);obtain rfl:=aJ hb;rw[fW];exact(hc j u g).2
theorem St.grow{B:Nat}{k:aP}{w w':World}(h:St LL B k s w){id n m x0 x:Nat}{v f:Value}{a:Nat}{ob:aa}(hk:k.own[id]?=some (.row v n))(F: ∀g,v.ownBlock=some g->k.I g=x0)(hm:0<m)(L:x0<=x)
  (hb:Below B w w') (A:f.ownBlock=some a) (c:v.ownBlock=some a\/(a=w.heap.size/\w.heap.size<w'.heap.size)) (i: ∀b,b<w.heap.size->b≠a->w'.heap[b]?=w.heap[b]?)
  (y:v.ownBlock=some a-> ∀q u,q<x0->w.cell? ⟨a,q,none⟩=some u->w'.cell? ⟨a,q,none⟩=some u)
  (E:Mono k w ⟨dE k.I a x,k.own.set id (.row f (n+m))⟩ w'->lr LL B ⟨dE k.I a x,k.own.set id (.row f (n+m))⟩ w' ob (.row f (n+m))):
  Ext B k w ⟨dE k.I a x,k.own.set id (.row f (n+m))⟩ w'/\St LL B ⟨dE k.I a x,k.own.set id (.row f (n+m))⟩ (s.set id ob) w':=by
 have C:=(aV.1 hk).1;have d:jr k.I w (dE k.I a x) w':=λb q u G hc=>by
  have l:=HH hc;by_cases e:b=a
  .subst e;rcases c with hc1|⟨hc1,_⟩
   .have h0:=F b hc1;exact⟨by rw[gE];omega,y hc1 q u a8 hc⟩
   .omega
  .exact⟨by rw[ix _ _ e];exact G,(vG (w:=w) (i b l e)).trans hc⟩
 have t:dM (.row v n) (.row f (n+m)):=⟨f,n+m,rfl,.inr a8⟩
 have o:Mono k w ⟨dE k.I a x,k.own.set id (.row f (n+m))⟩ w':=⟨d,λj K D=>by
  show∃o',(k.own.set id (.row f (n+m)))[j]?=some o'/\_;rw[fB];by_cases e:id=j
  .subst e;rw[hk]at D;cases D;exact⟨_,by simp[C],t⟩
  .exact⟨K,by simp[e,D],dM.refl _⟩⟩
 have r:B<=a/\a<w'.heap.size:=by
  rcases c with hc|⟨rfl,hc⟩
  .obtain⟨H,J⟩:=h.lies id _ a hk hc;exact⟨H,pH J hb.size⟩
  .exact⟨h.base,hc⟩
 refine h.upd hk ob rfl t d hb (λb z=> ?_) (λb l hne=> ?_) (E o)
 .have:some b=some a:=by rw[<-z];exact A
  cases this;refine⟨?_,r.2,r.1⟩;rcases c with hc|⟨rfl,_⟩
  .exact .inl hc
  .exact .inr (bg _)
 .have p:b≠a:=by
   rintro rfl;rcases c with hc|⟨rfl,_⟩
   .exact hne hc
   .omega
  exact⟨i b l p,ix _ _ p⟩
theorem CB{B:Nat}{k:aP}{w:World}(C:St LL B k s w){v:Value}{y:AV}(M:RA k w v y){sz:Nat}{m:Nat×List AV}(h:iX s sz y=some m):
  ∃us,pK w v m.1 sz us/\bZ k w us m.2:=by
 unfold iX at h;split at h
 .rename_i id n G;obtain⟨⟨l,ds⟩,o,d⟩:=aT h;obtain⟨e,t,D,p⟩:=jo o;split at d
  .rename_i f;obtain⟨rfl,rfl⟩:=f;obtain rfl:=aJ d;obtain⟨⟨ad,cc,hv⟩,u,R,z,J,r⟩:=M.vec_inv;obtain⟨v2,Z,xs,q,a,X,H,F⟩:=C.vec t;rw[z]at q;cases q;have A:n=R:=by
    rw[p]at H;exact mf D H
   subst A;have L:=r rfl;refine⟨xs,⟨a.1,?_⟩,F⟩;rw[L];rcases a.2 with⟨d,W⟩|⟨g,cap,cur,d,_⟩
   .exact .inl ⟨0,d,W⟩
   .exact .inr ⟨_,cap,d,λi x j=>a.cells (by rw[d];rfl) i x j⟩
  .cases d
 .rename_i id N off n G;obtain⟨⟨l,ds⟩,o,d⟩:=aT h;obtain⟨e,t,D,p⟩:=jo o;split at d
  .rename_i f;dsimp only at f;obtain⟨rfl,rfl,J⟩:=f;obtain rfl:=aJ d;obtain⟨_,u,R,z,_,r⟩:=M.vwn_inv;obtain⟨v2,Z,xs,q,a,X,H,F⟩:=C.vec t;rw[z]at q;cases q;have A:N=R:=by
    rw[p]at H;exact mf D H
   subst A;obtain⟨b,c,O,E,_,_⟩:=r rfl;have P:u.ownBlock=some b:=by rw[O];rfl
   have I:=(F.drop (off*l)).take (n*l);have S:off*l+n*l<=N*l:=by rw[<-fQ];exact jI _ J
   refine⟨_,⟨by rw[I.1];simp;omega,.inr ⟨_,c,E,λi x j=> ?_⟩⟩,I⟩;rw[fL]at j;split at j
   .rw[gf]at j;have:=a.cells P _ x j;rw[fW,aw]at this;rw[fW];exact this
   .cases j
  .cases d
 .rename_i id off n G;obtain⟨cs,o,d⟩:=aT h;split at d
  .rename_i f;obtain⟨rfl,T⟩:=f;obtain rfl:=aJ d;obtain⟨b,c,hb,E,_,_⟩:=M.win_inv;obtain⟨b',t',us,q,U,V,gI⟩:=C.cells (uf o);rw[hb]at q;cases q;have I:=(V.drop off).take (n*G);refine⟨_,⟨by rw[I.1];simp;omega,.inr ⟨_,c,E,λi x j=> ?_⟩⟩,I⟩;rw[fL]at j;split at j
   .rw[gf]at j;rw[fW,vP U];exact j
   .cases j
  .cases d
 .obtain⟨rows,Y,rfl⟩:=bK h;obtain⟨us,K,Q⟩:=Ah (M.slA Y);exact⟨us,K,dA.toA Q⟩
theorem Za{B:Nat}{k:aP}{w:World}{s2:List aa}(c:St LL B k s2 w)(ha:gx s s2){v:Value}{y:AV}(j:RA k w v y){sz:Nat}{m:Nat×List AV}(h:iX s sz y=some m):iX s2 sz y=some m:=by
 unfold iX at h⊢;split at h
 .rename_i id n g;obtain⟨⟨l,ds⟩,a,d⟩:=aT h;obtain⟨e,b,i,f⟩:=jo a;rw[b]at a;show(gY n (s2[id]?)).bind _=_;rw[xR c ha j rfl b,a];exact d
 .rename_i id N off n g;obtain⟨⟨l,ds⟩,a,d⟩:=aT h;obtain⟨e,b,i,f⟩:=jo a;rw[b]at a;show(gY N (s2[id]?)).bind _=_;rw[xR c ha j rfl b,a];exact d
 .rename_i id off n g;obtain⟨cs,a,d⟩:=aT h;have b:=uf a;rw[b]at a;show(nV (s2[id]?)).bind _=_;rw[xR c ha j rfl b,a];exact d
 .exact h
theorem FT{e sz n:Nat}{o:Option aa}(h:gU e sz n o=true):o=some (.row e sz n):=by
 unfold gU at h;split at h
 .obtain⟨rfl,rfl,rfl⟩:=of_decide_eq_true h;rfl
 .cases h
theorem zr{n b:Nat}(h:bw n b=true):n*b<=140737488355328/\n<=9223372036854775807:=of_decide_eq_true h
theorem Mv(w:World)(B:Nat)(t s e:TypeId)(j:TypeInfo)(z:Value)(A:P.underlying t=some (.slice e))(y:P.info? e=some j)(C:j.zero=some z)(l:z.cells.size=j.size)(v:Option Addr)(x:Value)(m:Nat)(us:List Value)
  (d:pK w x m j.size us) (h1s: ∀u∈us,u.oneCell'=true) (hm:0<m) (D:m*j.bytes<=140737488355328) (r2:m<=9223372036854775807) (a:B<=w.heap.size):
  ∃n w',(Builtin.append_ #[t,t] s #[.slice v 0 0,x]).run P w= .ok n w'/\w'.ownsRow B e j.size n m us/\n.ownBlock=some w.heap.size/\w.heap.size<w'.heap.size/\w.grownBy w' none:=by
 cases v with
 |none=>
  obtain⟨n,w',p,f⟩:=Cs (P:=P) w B t s e j z A y C l _ 0 [] (eK.of (World.ownsRow_nil w B e j.size)) _ m us d h1s a8 (by simpa using D) a;rcases f with⟨E,_⟩|⟨_,⟨_,hownR⟩,hb,⟨g,_,hg,_⟩|⟨hg,hlt,hgb⟩⟩
  .omega
  .cases hg
  .have b:=hownR (World.ownsRow_nil w B e j.size);rw[aw,bt]at b;exact⟨n,w',p,b,hg,hlt,hgb⟩
 |some a0=>
  obtain⟨o,⟨c,_,h0⟩|⟨q,c,r,hc⟩⟩:=d
  .omega
  .have p:=run_append_grow (P:=P) w t s e j z A y C a0 0 0 [] (by simp) (by simp) q m c us o hc a8 a8 (growslice_fits a8 (by simpa using D));have i:=grownCap_ge w (0+m) 0 e;have h:grownCap w (0+m) 0 e<=maxLen:=grownCap_le_maxLen w (0+m) 0 e (by unfold maxLen;omega);rw[<-r]at p
   refine⟨_,_,p,?_,rfl,by simp,⟨rfl,rfl,rfl,by simp,λk hk _=>Below.heap_alloc w.drew _ k (by simpa using hk)⟩⟩;simp only[aw,bt,Array.empty_append]at i h⊢;refine⟨o,.inr ⟨w.heap.size,_,_,rfl,a,heap_alloc_new w.drew _,i,h,?_,?_⟩⟩
   .simp only[Array.size_append,me,size_zeroCells,l,o,bc,aw,<-fQ];congr 1;omega
   .simp only[qH,bk,bt];rw[<-o];exact List.take_left
theorem KE{mu:Bool}{t e:TypeId}{j:TypeInfo}{z:Value}{p q:Operand}{x y:X}(ho:o.op= .call {callee:= .builtin .append,args:= #[p,q],argTypes:= #[t,t]})(hu:P.underlying t=some (.slice e))(hj:P.info? e=some j)(hz:j.zero=some z)(a6:z.cells.size=j.size)
  (hx:cX P t p=some x) (hy:cX P t q=some y) (h:(CI.app mu e j.size j.bytes x y).sem fr s=some (d,s')) (ht:nf (x.ev fr)=3):jq LL P o fr s d s':=by
 have hp:p∈o.op.operands:=by rw[ho];simp[Op.operands,Call.operands]
 have hq:q∈o.op.operands:=by rw[ho];simp[Op.operands,Call.operands]
 have R: ∀(a:Act) (w:World) (v:Value) (w':World),(Builtin.append_ #[t,t] o.type #[a.eval p,a.eval q]).run P w= .ok v w'->(execOp a.eval o).run P w= .ok (.value v) w':=λa w v w' hr=>by
  unfold execOp;rw[ho];simp only[resolve,invoke,builtin,bP,cJ,bV,tU,bX,fi,hr]
 obtain⟨xv,K,h1⟩:=aT (show((x.ev fr).bind λv=>(y.ev fr).bind λu=>jD s mu e j.size j.bytes u v)=some (d,s')from h);obtain⟨yv,S,U⟩:=aT h1
 have fresh: ∀(s2:List aa) (B:Nat) (k:aP) (a:Act) (w:World),RA k w (a.eval q) yv->St LL B k s2 w-> ∀(news:List (List D)) (L:Option Addr) (dz:AV),slA j.size yv=some news->a.eval p= .slice L 0 0->RA k w (a.eval p) dz->news=[]->dY P o a w λv w'=> ∃k',RA k' w' v dz/\Ext B k w k' w'/\St LL B k' s2 w':=λs2 B k a w N l news L dz O F a9 h0=>by
  subst h0;obtain⟨us,J,Q⟩:=Ah (N.slA O);refine dY.value (v:=a.eval p) (w':=w) (R a w _ _ ?_) ⟨k,a9,Ext.refl B k w,l⟩;rw[F];obtain⟨hl,⟨c,a1,_⟩|⟨b2,c,a1,hc⟩⟩:=J
  .rw[a1];cases L with
   |none=>simp[Builtin.append_,run_underlying hu,sizeOf,typeInfo,hj,Builtin.lenOf,Builtin.firstCells]
   |some a0=>simp[Builtin.append_,run_underlying hu,sizeOf,typeInfo,hj,Builtin.lenOf,Builtin.firstCells,storeCells]
  .rw[a1];cases L with
   |none=>simp[Builtin.append_,run_underlying hu,sizeOf,typeInfo,hj,Builtin.lenOf,Builtin.firstCells,loadCells,loadCellsFrom]
   |some a0=>simp[Builtin.append_,run_underlying hu,sizeOf,typeInfo,hj,Builtin.lenOf,Builtin.firstCells,storeCells,loadCells,loadCellsFrom]
 have V: ∀(s2:List aa) (B:Nat) (k:aP) (a:Act) (w:World),RA k w (a.eval q) yv->St LL B k s2 w-> ∀(m:Nat),iy s2 m 1-> ∀(news:List (List D)) (L:Option Addr),slA j.size yv=some news->a.eval p= .slice L 0 0->news≠[]->bw news.length j.bytes=true->dY P o a w λv w'=> ∃k',RA k' w' v (.tsl m j.size news)/\Ext B k w k' w'/\St LL B k' (fill s2 m [.row e j.size news.length]) w':=λs2 B k a w N l m a4 news L O F h0 f=>by
  obtain⟨r1,r2⟩:=zr f;have hm:0<news.length:=by
   rcases qM news.length with e|e
   .exact absurd (gV e) h0
   .exact e
  obtain⟨us,J,Q⟩:=Ah (N.slA O);have a2:=zu (N.slA O);have key:=Mv (P:=P) w B t o.type e j z hu hj hz a6 L _ news.length us J Q.2.1 hm r1 r2 l.base;obtain⟨W,w',hr,H,hg,Z,r⟩:=key;have Y:Below w.heap.size w w':=⟨r.os,r.tape,r.output,r.size,λk hk=>r.block k hk (by simp)⟩
  have hI: ∀b,b<w.heap.size->dE k.I w.heap.size (news.length*j.size) b=k.I b:=λb hb=>ix _ _ a8;obtain⟨he,a3⟩:=l.newAt Y hI a4 (.row W news.length) (.row e j.size news.length) (λb hb=>by rw[show(Own.row W news.length).block=some w.heap.size from hg]at hb;cases hb;exact⟨bg _,Z⟩)
   λ_=>⟨rfl,⟨us,eK.of H⟩,λg G=>by rw[hg]at G;cases G;exact gE ..⟩
  refine dY.value (R a _ _ _ (by rw[F];exact hr)) ⟨_,.tsl ?_ ⟨W,news.length,pZ l a4 _,bg _,λ_=>rfl⟩,he,a3⟩;refine uQ (eK.of H) (Q.mono he.keep) rfl a2 λg G=> ?_;rw[hg]at G;cases G;exact qN (gE ..).symm
 have T: ∀(n:Nat×List AV),iX s j.size yv=some n->0<n.1->n.2.length=n.1*j.size->bw n.1 j.bytes=true->(∀(k:aP) (w:World) (v:Value),RA k w v xv-> ∃L,v= .slice L 0 0)->jq LL P o fr s (.vec s.length n.1 j.size) (s++[.vec e j.size n.2]):=λn C hm c3 f a5=>by
  obtain⟨r1,r2⟩:=zr f;refine⟨[.vec e j.size n.2],rfl,λs2 a7 O=> ?_⟩;intro B k a w i l;have A:=bU i hp hx K;have N:=bU i hq hy S;obtain⟨L,F⟩:=a5 k w _ A;obtain⟨us,J,Q⟩:=CB l N (Za l a7 N C)
  obtain⟨W,w',hr,H,hg,Z,r⟩:=Mv (P:=P) w B t o.type e j z hu hj hz a6 L _ n.1 us J Q.2.1 hm r1 r2 l.base;have Y:Below w.heap.size w w':=⟨r.os,r.tape,r.output,r.size,λk hk=>r.block k hk (by simp)⟩
  have hI: ∀b,b<w.heap.size->dE k.I w.heap.size 0 b=k.I b:=λb hb=>ix _ _ a8;have b0: ∀b,(Own.row W n.1).block=some b->w.heap.size<=b/\b<w'.heap.size:=λb hb=>by rw[show(Own.row W n.1).block=some w.heap.size from hg]at hb;cases hb;exact⟨bg _,Z⟩
  obtain⟨he,a3⟩:=l.newAt Y hI O (.row W n.1) (.vec e j.size n.2) b0 λhm=>⟨us,H,λg G=>by rw[hg]at G;cases G;exact gE ..,c3,Q.mono hm⟩
  exact dY.value (R a _ _ _ (by rw[F];exact hr)) ⟨_,.vec (yX H) ⟨W,n.1,pZ l O _,bg _,λ_=>rfl⟩,he,a3⟩
 unfold jD at U;split at U
 .rw[K]at ht;cases ht
 .rename_i b1;split at U
  .obtain⟨n,C,E⟩:=aT U;split at E
   .rename_i M;obtain⟨⟨rfl,hm,c3⟩,f⟩:=M;obtain⟨rfl,rfl⟩:=fC (aJ E);exact T n C hm c3 f λk w v hv=>⟨none,hv.nil_inv⟩
   .cases E
  .obtain⟨news,O,E⟩:=aT U;split at E
   .rename_i h0;obtain⟨rfl,rfl⟩:=fC (aJ E);refine⟨[],(bq _).symm,λs2 _ _=> ?_⟩;rw[IS];intro B k a w i l;have A:=bU i hp hx K;exact fresh s2 B k a w (bU i hq hy S) l news none _ O A.nil_inv A h0
   .rename_i h0;split at E
    .rename_i M;obtain⟨rfl,f⟩:=M;obtain⟨rfl,rfl⟩:=fC (aJ E);refine⟨_,rfl,λs2 _ hm=> ?_⟩;intro B k a w i l;have A:=bU i hp hx K;exact V s2 B k a w (bU i hq hy S) l _ hm news none O A.nil_inv h0 f
    .cases E
 .rename_i b1;split at U
  .obtain⟨n,C,E⟩:=aT U;split at E
   .rename_i M;obtain⟨⟨rfl,hm,c3⟩,f⟩:=M;obtain⟨rfl,rfl⟩:=fC (aJ E);exact T n C hm c3 f λk w v hv=>hv.emp_inv
   .cases E
  .obtain⟨news,O,E⟩:=aT U;split at E
   .rename_i h0;obtain⟨rfl,rfl⟩:=fC (aJ E);refine⟨[],(bq _).symm,λs2 _ _=> ?_⟩;rw[IS];intro B k a w i l;have A:=bU i hp hx K;obtain⟨L,F⟩:=A.emp_inv;exact fresh s2 B k a w (bU i hq hy S) l news L _ O F A h0
   .rename_i h0;split at E
    .rename_i M;obtain⟨rfl,f⟩:=M;obtain⟨rfl,rfl⟩:=fC (aJ E);refine⟨_,rfl,λs2 _ hm=> ?_⟩;intro B k a w i l;have A:=bU i hp hx K;obtain⟨L,F⟩:=A.emp_inv;exact V s2 B k a w (bU i hq hy S) l _ hm news L O F h0 f
    .cases E
 .rw[K]at ht;cases ht
 .rw[K]at ht;cases ht
 .cases U
theorem TB{mu:Bool}{t e:TypeId}{j:TypeInfo}{z:Value}{p q:Operand}{x y:X}(ho:o.op= .call {callee:= .builtin .append,args:= #[p,q],argTypes:= #[t,t]})(hu:P.underlying t=some (.slice e))(hj:P.info? e=some j)(hz:j.zero=some z)(b5:z.cells.size=j.size)
  (hx:cX P t p=some x) (hy:cX P t q=some y) (h:(CI.app mu e j.size j.bytes x y).sem fr s=some (d,s')):bA LL P o fr s d s':=by
 have hp:p∈o.op.operands:=by rw[ho];simp[Op.operands,Call.operands]
 have hq:q∈o.op.operands:=by rw[ho];simp[Op.operands,Call.operands]
 have O: ∀(a:Act) (w:World) (v:Value) (w':World),(Builtin.append_ #[t,t] o.type #[a.eval p,a.eval q]).run P w= .ok v w'->(execOp a.eval o).run P w= .ok (.value v) w':=λa w v w' T=>by
  unfold execOp;rw[ho];simp only[resolve,invoke,builtin,bP,cJ,bV,tU,bX,fi,T]
 by_cases hN:nf (x.ev fr)=3
 .exact(KE ho hu hj hz b5 hx hy h hN).op
 obtain⟨xv,d2,h1⟩:=aT (show((x.ev fr).bind λv=>(y.ev fr).bind λu=>jD s mu e j.size j.bytes u v)=some (d,s')from h);obtain⟨yv,f5,h2⟩:=aT h1;intro B k a w b7 A;have d0:=bU b7 hp hx d2;have b4:=bU b7 hq hy f5;unfold jD at h2;split at h2
 .rename_i id n e7;obtain⟨C,Z,h3⟩:=aT h2;obtain⟨⟨f6,ds⟩,b8,h4⟩:=aT h3;obtain⟨e',G,b2,K⟩:=jo b8;split at h4
  .rename_i a5;obtain⟨⟨rfl,c1,c2,c3⟩,c4⟩:=a5;dsimp only at c1;subst c1;have b9:mA s[id]?=e':=by rw[G];rfl
   rw[b9]at c2;subst c2;obtain⟨r1,r2⟩:=zr c4;obtain⟨rfl,rfl⟩:=fC (aJ h4);obtain⟨⟨ad,cc,hv⟩,u,n',l,d9,a6⟩:=d0.vec_inv;obtain⟨v,n2,xs,g1,D,hI,g4,b3⟩:=A.vec G;rw[l]at g1;cases g1;have c7:n=n':=by
    rw[K]at g4;exact mf b2 g4
   subst c7;have Q:=a6 rfl;obtain⟨us,F,R⟩:=CB A b4 Z;obtain⟨v',w',T,f⟩:=Cs (P:=P) w B t o.type e' j z hu hj hz b5 _ n xs (eK.of D) _ C.1 us F R.2.1 r2 r1 A.base;rcases f with⟨h0,rfl,rfl⟩|⟨hm,⟨_,hownR⟩,hb,f⟩
   .have a9:C.2=[]:=gV (by rw[c3,h0];simp);rw[h0,a9];refine dY.value (O a _ _ _ (by rw[Q];exact T)) ⟨k,.vec ⟨ad,cc,by rw[<-Q];simpa using hv⟩ ⟨v',n,l,by simp,λ_=>rfl⟩,Ext.refl B k _,?_⟩;have:s.set id (.vec e' j.size (ds++[]))=s:=by
     obtain⟨a3,a4⟩:=aV.1 G;rw[bq,<-a4];exact Ac a3
    rw[this];exact A
   .have i:=hownR D;have M: ∃S,v'.ownBlock=some S/\(u.ownBlock=some S\/(S=w.heap.size/\w.heap.size<w'.heap.size))/\(∀b,b<w.heap.size->b≠S->w'.heap[b]?=w.heap[b]?):=by
     rcases f with⟨g,V,H,I⟩|⟨hg,hlt,I⟩
     .exact⟨g,V,.inl H,λb hb hne=>I.block b hb (by simpa using hne)⟩
     .exact⟨w.heap.size,hg,.inr ⟨rfl,hlt⟩,λb hb _=>I.block b hb (by simp)⟩
    obtain⟨S,U,E,W⟩:=M;obtain⟨he,Y⟩:=A.grow (x0:=0) (x:=0) (ob:= .vec e' j.size (ds++C.2)) l hI hm (bg _) hb U E W (λ_ q u hq _=>by omega)
     λL=>⟨xs++us,i,λg hg=>by rw[U]at hg;cases hg;exact gE ..,by rw[aQ,K,c3,fQ],(b3.mono L).append (R.mono L)⟩
    have J:=(aV.1 l).1;exact dY.value (O a _ _ _ (by rw[Q];exact T)) ⟨_,.vec (yX i) ⟨v',n+C.1,by simp[J],bg _,λ_=>rfl⟩,he,Y⟩
  .cases h4
 .exact absurd (by rw[d2];rfl) hN
 .exact absurd (by rw[d2];rfl) hN
 .rename_i id e7 rows;obtain⟨news,hn,h3⟩:=aT h2;split at h3
  .rename_i a5;obtain⟨⟨rfl,e5⟩,c9⟩:=a5;obtain⟨e9,e8⟩:=zr c9;have G:=FT e5;obtain⟨rfl,rfl⟩:=fC (aJ h3);obtain⟨hv,u,n',l,d9,a6⟩:=d0.tsl_inv;obtain⟨v,xs,d8,D,hI⟩:=A.row G;rw[l]at d8;cases d8;have Q:=a6 rfl;rw[Q]at hv;obtain⟨us,F,R⟩:=Ah (b4.slA hn);have hnrows:=zu (b4.slA hn);have hrrows:=zu hv
   have b3:=zt hv D;obtain⟨v',w',T,f⟩:=Cs (P:=P) w B t o.type e j z hu hj hz b5 _ rows.length xs D _ news.length us F R.2.1 e8 e9 A.base;rcases f with⟨h0,rfl,rfl⟩|⟨hm,⟨i,_⟩,hb,f⟩
   .have:news=[]:=gV h0;subst this;refine dY.value (O a _ _ _ (by rw[Q];exact T)) ⟨k,.tsl (by simpa using hv) ⟨v',rows.length,l,by simp,λ_=>rfl⟩,Ext.refl B k _,?_⟩;simp only[bc,aB];have:s.set id (.row e j.size rows.length)=s:=by
     obtain⟨a3,a4⟩:=aV.1 G;rw[<-a4];exact Ac a3
    rw[this];exact A
   .have M: ∃S,v'.ownBlock=some S/\(u.ownBlock=some S\/(S=w.heap.size/\w.heap.size<w'.heap.size))/\(∀b,b<w.heap.size->b≠S->w'.heap[b]?=w.heap[b]?)/\(u.ownBlock=some S-> ∀q x,q<rows.length*j.size->w.cell? ⟨S,q,none⟩=some x->w'.cell? ⟨S,q,none⟩=some x):=by
     rcases f with⟨g,V,H,I⟩|⟨hg,hlt,I⟩
     .refine⟨g,V,.inl H,λb hb hne=>I.block b hb (by simpa using hne),λ_ q x hq hc=> ?_⟩;have e1:=D.cells H;have e2:=i.cells V;have hl:=D.1;have e6:xs[q]?=some xs[q]:=bQ a8;have a1:=e1 q _ e6;rw[fW,aw]at a1;rw[a1]at hc;obtain rfl:=aJ hc
      have a2:=e2 q xs[q] (by rw[fP a8];exact e6);rw[fW,aw]at a2;exact a2
     .refine⟨w.heap.size,hg,.inr ⟨rfl,hlt⟩,λb hb _=>I.block b hb (by simp),λH=> ?_⟩;have:=(A.lies id _ _ l H).2;omega
    obtain⟨S,U,E,W,e4⟩:=M;obtain⟨he,Y⟩:=A.grow (x:=(rows.length+news.length)*j.size) (ob:= .row e j.size (rows.length+news.length)) l hI hm (by rw[fQ];omega) hb U E W e4
     λ_=>⟨rfl,⟨_,i⟩,λg hg=>by rw[U]at hg;cases hg;exact gE ..⟩
    have J:=(aV.1 l).1;refine dY.value (O a _ _ _ (by rw[Q];exact T)) ⟨_,.tsl ?_ ⟨v',rows.length+news.length,by simp[J],by simp,λ_=>rfl⟩,he,Y⟩;refine uQ i (by rw[tS];exact(b3.mono he.keep).append (R.mono he.keep)) (by simp) (λr T=> ?_) λg d7=> ?_
    .rcases fk.1 T with T|T
     .exact hrrows r T
     .exact hnrows r T
    .rw[U]at d7;cases d7;exact qN (gE ..).symm
  .cases h3
 .rename_i id N off m e7;obtain⟨C,Z,h3⟩:=aT h2;obtain⟨⟨f6,ds⟩,b8,h4⟩:=aT h3;obtain⟨e',G,b2,K⟩:=jo b8;split at h4
  .rename_i a5;obtain⟨⟨⟨rfl,c1,c2,c3⟩,c5,c6⟩,c4⟩:=a5;dsimp only at c1 h4;subst c1;subst c5;have b9:mA s[id]?=e':=by rw[G];rfl
   rw[b9]at c2;subst c2;obtain⟨r1,r2⟩:=zr c4;have h5:=aJ h4;obtain⟨_,u,n',l,d9,a6⟩:=d0.vwn_inv;obtain⟨v,n2,xs,g1,D,hI,g4,b3⟩:=A.vec G;rw[l]at g1;cases g1;have c7:N=n':=by
    rw[K]at g4;exact mf b2 g4
   subst c7;obtain⟨b,c,a0,hv,c0,d5⟩:=a6 rfl;have d1:u.ownBlock=some b:=by rw[a0];rfl
   rw[oL]at hv;obtain⟨us,F,R⟩:=CB A b4 Z;have f3:m*j.size<=N*j.size:=jI _ c6;obtain⟨u',f7,cap,cur,q1,q2,q3,q4,q5,q6,q7,q8,q9,g5,g6,g7⟩:=zQ A G b2 K ⟨u,N,l,bg _,λ_=>d1⟩;rw[l]at q1;cases q1;have g2:N*j.size<=cap*j.size:=jI _ q6;have f8:0+c=cap:=by rw[a0]at q3;injection q3
   have d4:c=cap:=by omega
   have hk:us.length=C.1*j.size:=F.1;split at h5
   ·
    rename_i f1;obtain⟨rfl,rfl⟩:=fC h5;have d6:(m+C.1)*j.size<=N*j.size:=jI _ f1;rw[fQ]at d6;obtain⟨b6,hh,f9,he,Y⟩:=NA A G b2 K ⟨u,N,l,bg _,λ_=>d1⟩ R (off:=m*j.size) a8;rw[hk]at he Y;by_cases a7:C.1=0
    .have a9:C.2=[]:=gV (by rw[c3,a7];simp);have T:(Builtin.append_ #[t,t] o.type #[.slice (some ⟨b,0,none⟩) m c,a.eval q]).run P w= .ok (.slice (some ⟨b,0,none⟩) m c) w:=by
      obtain⟨hl,⟨c',b1,_⟩|⟨d3,c',b1,hc⟩⟩:=F
      .rw[b1];simp[Builtin.append_,run_underlying hu,sizeOf,typeInfo,hj,Builtin.lenOf,Builtin.firstCells,c0,storeCells]
      .rw[b1,a7];simp[Builtin.append_,run_underlying hu,sizeOf,typeInfo,hj,Builtin.lenOf,Builtin.firstCells,c0,storeCells,loadCells,loadCellsFrom]
     refine dY.value (O a _ _ _ (by rw[hv];exact T)) ⟨k,?_,Ext.refl B k _,?_⟩
     .rw[a7,aB];exact .vwn ⟨_,_,rfl⟩ ⟨u,N,l,bg _,λ_=>⟨b,c,a0,by rw[oL],c0,d5⟩⟩
     .have:s.set id (.vec e' j.size (ds.take (m*j.size)++C.2++ds.drop (m*j.size+C.1*j.size)))=s:=by
       obtain⟨a3,a4⟩:=aV.1 G;rw[a9,a7,oL,aB,bq,jV,<-a4];exact Ac a3
      rw[this];exact A
    .obtain⟨hl,⟨c',_,h0⟩|⟨d3,c',b1,hc⟩⟩:=F
     .exact absurd h0 a7
     .have T:=run_append_room (P:=P) w t o.type e' j hu hj b m c b6 hh d3 C.1 c' us hl hc R.2.1 a8 (by rw[hk];omega);rw[hk]at T;refine dY.value (O a _ _ _ (by rw[hv,b1];exact T)) ⟨k,?_,he,Y⟩;exact .vwn ⟨_,_,rfl⟩ ⟨u,N,l,bg _,λ_=>⟨b,c,a0,by rw[oL],by omega,d5⟩⟩
   ·
    rename_i g0;obtain⟨rfl,rfl⟩:=fC h5;have f2:0<C.1:=by omega
    have g3:xs.length=N*j.size:=D.1;have f4:f7=xs:=by
     rw[<-q9];rcases D.2 with⟨hn,_⟩|⟨g,cap',b6,V,_,H,_,_,_,hg3⟩
     .rw[a0]at hn;cases hn
     .rw[a0]at V;injection V with e1 _ _
      injection e1 with e1;injection e1 with e1 _ _
      subst e1;rw[q5]at H;have e2:=aJ H;injection e2 with e3 _ _
      rw[e3];exact hg3
    have b0:w.ownsRow B e' j.size (.slice (some ⟨b,0,none⟩) m c) m (xs.take (m*j.size)):=by
     refine⟨by rw[cC];omega,.inr ⟨b,c,cur,rfl,q4,q5,by omega,by omega,by rw[d4];exact q8,?_⟩⟩;rw[<-f4,<-q9,sa,qO f3]
    obtain⟨v',w',T,f⟩:=Cs (P:=P) w B t o.type e' j z hu hj hz b5 _ m (xs.take (m*j.size)) (eK.of b0) _ C.1 us F R.2.1 r2 r1 A.base;rcases f with⟨h0,_⟩|⟨_,⟨_,hownR⟩,hb,f⟩
    .omega
    .have i:=hownR b0;have M: ∃S,v'.ownBlock=some S/\(u.ownBlock=some S\/(S=w.heap.size/\w.heap.size<w'.heap.size))/\(∀b,b<w.heap.size->b≠S->w'.heap[b]?=w.heap[b]?):=by
      rcases f with⟨g,V,H,I⟩|⟨hg,hlt,I⟩
      .refine⟨g,V,.inl ?_,λb hb hne=>I.block b hb (by simpa using hne)⟩;rw[d1];exact H
      .exact⟨w.heap.size,hg,.inr ⟨rfl,hlt⟩,λb hb _=>I.block b hb (by simp)⟩
     obtain⟨S,U,E,W⟩:=M;obtain⟨p,e0⟩: ∃p,m+C.1=N+p:=⟨m+C.1-N,by omega⟩
     have c8:0<p:=by omega
     rw[e0]at i⊢;have f0:(ds.take (m*j.size)).length=m*j.size:=by rw[cC,K];omega
     obtain⟨he,Y⟩:=A.grow (x0:=0) (x:=0) (ob:= .vec e' j.size (ds.take (m*j.size)++C.2)) l hI c8 (bg _) hb U E W (λ_ q u hq _=>by omega)
      λL=>⟨xs.take (m*j.size)++us,i,λg hg=>by rw[U]at hg;cases hg;exact gE ..,by rw[aQ,f0,c3,<-fQ,e0],((b3.mono L).take _).append (R.mono L)⟩
     have J:=(aV.1 l).1;exact dY.value (O a _ _ _ (by rw[hv];exact T)) ⟨_,.vec (yX i) ⟨v',N+p,by simp[J],bg _,λ_=>rfl⟩,he,Y⟩
  .cases h4
 .cases h2
end
end Go.Bb
namespace Go.Bb
open Go Go.RowKit Go.Ab Go.Proofs.Lg
section
variable {LL:Nat->Code->CC->Prop} {P:Program} {o:Oper} {fr:Fr} {s s':List aa} {d:AV}
theorem Kb{B:Nat}{k:aP}{w:World}(c:St LL B k s w){p:Nat}(hp:iy s p 1){x:List aa}{mu:Bool}{e sz n cap:Nat}{cur:Array Value}{cs:List AV}(f:bZ k w (cur.toList.take (n*sz)) cs)(A:cs.length=n*sz)(v:cur.size=cap*sz)(u:n<=cap)(o:cap<=9223372036854775807)
  (h:(if mu then some (AV.vec p n sz,[aa.vec e sz cs])else(toLs cs).map λds=>(.tsl p sz (chunk sz n ds),[.row e sz n]))=some (d,x)):
  ∃k',RA k' (w.alloc (.cells cur e)) (.slice (some ⟨w.heap.size,0,none⟩) n cap) d/\Ext B k w k' (w.alloc (.cells cur e))/\St LL B k' (fill s p x) (w.alloc (.cells cur e)):=by
 have hb:Below w.heap.size w (w.alloc (.cells cur e)):=(Below.refl _ _).alloc (bg _) _;have z:(w.alloc (.cells cur e)).heap[w.heap.size]?=some (.cells cur e (0,0)):=heap_alloc_new w _;have t:w.heap.size<(w.alloc (.cells cur e)).heap.size:=(gy.1 z).1
 have a:(w.alloc (.cells cur e)).ownsRow B e sz (.slice (some ⟨w.heap.size,0,none⟩) n cap) n (cur.toList.take (n*sz)):=
  ⟨by rw[f.1,A],.inr ⟨w.heap.size,cap,cur,rfl,c.base,z,u,by unfold maxLen;exact o,v,rfl⟩⟩
 have y: ∀x b,b<w.heap.size->dE k.I w.heap.size x b=k.I b:=λx b hb=>ix _ _ a8;have l: ∀b,(Own.row (.slice (some ⟨w.heap.size,0,none⟩) n cap) n).block=some b->w.heap.size<=b/\b<(w.alloc (.cells cur e)).heap.size:=λb hb=>by cases hb;exact⟨bg _,t⟩
 cases mu with
 |true=>
  obtain⟨rfl,rfl⟩:=fC (aJ (by simpa using h));obtain⟨m,i⟩:=c.newAt hb (y 0) hp _ (.vec e sz cs) l λhm=>⟨_,a,(λg hg=>by cases hg;exact gE ..),A,f.mono hm⟩
  exact⟨_,.vec ⟨_,_,rfl⟩ ⟨_,n,pZ c hp _,bg _,λ_=>rfl⟩,m,i⟩
 |false=>
  simp only[l7,if_false]at h;obtain⟨ds,j,C⟩:=bK h;obtain⟨rfl,rfl⟩:=fC C;obtain⟨m,i⟩:=c.newAt hb (y (n*sz)) hp _ (.row e sz n) l λ_=>⟨rfl,⟨_,eK.of a⟩,λg hg=>by cases hg;exact gE ..⟩
  have D:=(CJ j).1;obtain⟨q,r⟩:=uh sz n ds a8;refine⟨_,.tsl ?_ ⟨_,n,pZ c hp _,by rw[sv];exact bg _,λ_=>rfl⟩,m,i⟩;refine uQ (eK.of a) (by rw[q];exact(f.toLs j).mono m.keep) (sv sz n ds) r λg hg=> ?_;cases hg;exact qN (gE ..).symm
theorem Ka{s b:List aa}{mu:Bool}{v d:AV}{A B:aa}{α:Type}{o:Option α}{f:α->AV}(h:(if mu then some (v,s++[A])else o.map λds=>(f ds,s++[B]))=some (d,b)): ∃x,x.length=1/\b=s++x/\(if mu then some (v,[A])else o.map λds=>(f ds,[B]))=some (d,x):=by
 cases mu with
 |true=>
  obtain⟨rfl,rfl⟩:=fC (aJ (by simpa using h));exact⟨[A],rfl,rfl,rfl⟩
 |false=>
  simp only[l7,if_false]at h;obtain⟨ds,a,c⟩:=bK h;obtain⟨rfl,rfl⟩:=fC c;exact⟨[B],rfl,rfl,by simp[a]⟩
theorem RR{B:Nat}{k:aP}{w:World}(a:St LL B k s w){e sz n cap:Nat}{cur:Array Value}{cs:List AV}{ds:List D}(b:bZ k w (cur.toList.take (n*sz)) cs)(r:cs.length=n*sz)(i:cur.size=cap*sz)(f:n<=cap)(l:cap<=9223372036854775807)
  (c:toLs cs=some ds):
  ∃k',RA k' (w.alloc (.cells cur e)) (.slice (some ⟨w.heap.size,0,none⟩) n cap) (.d (.sl sz (chunk sz n ds)))/\Ext B k w k' (w.alloc (.cells cur e))/\St LL B k' s (w.alloc (.cells cur e)):=by
 have hb:Below w.heap.size w (w.alloc (.cells cur e)):=(Below.refl _ _).alloc (bg _) _;have q:(w.alloc (.cells cur e)).heap[w.heap.size]?=some (.cells cur e (0,0)):=heap_alloc_new w _;have h:(w.alloc (.cells cur e)).ownsRow B e sz (.slice (some ⟨w.heap.size,0,none⟩) n cap) n (cur.toList.take (n*sz)):=
  ⟨by rw[b.1,r],.inr ⟨w.heap.size,cap,cur,rfl,a.base,q,f,by unfold maxLen;exact l,i,rfl⟩⟩
 have p:=Ext.called (k:=k) a.base hb;have t:=(CJ c).1;obtain⟨m,o⟩:=uh sz n ds a8;refine⟨_,.d ?_,p,a.called hb⟩;refine uQ (eK.of h) (by rw[m];exact(b.toLs c).mono p.keep) (sv sz n ds) o λg hg=> ?_;cases hg;have j:gA k.I w.heap.size (w.alloc (.cells cur e)) w.heap.size=cur.size:=by
  unfold gA cellsIn;rw[if_neg (Nat.lt_irrefl _),q]
 show n*sz<=gA k.I w.heap.size (w.alloc (.cells cur e)) w.heap.size;rw[j,i];exact jI _ f
theorem TG{t:TypeId}{p:Operand}{x:X}(r:o.op= .box t p)(C:cX P t p=some x)(h:(CI.bxf x).sem fr s=some (d,s')):bA LL P o fr s d s':=by
 have hp:p∈o.op.operands:=by rw[r];simp[Op.operands]
 obtain⟨z,rfl⟩:=eh h;obtain⟨cs,m,j⟩:=aT (show(((x.ev fr).bind AV.cells).bind λcs=>(toLs cs).map λds=>AV.d (.ref ds))=some d from z);obtain⟨ds,n,rfl⟩:=bK (show((toLs cs).map λds=>AV.d (.ref ds))=some d from j);obtain⟨v,A,hc⟩:=aT m;intro B k a w f g;have e:=(bU f hp C A).cells hc;generalize hcells:(a.eval p).cells=cells at e
 have hb:Below w.heap.size w (w.alloc (.cells cells t)):=(Below.refl _ _).alloc (bg _) _;have j:(w.alloc (.cells cells t)).heap[w.heap.size]?=some (.cells cells t (0,0)):=heap_alloc_new w _;have q:=Ext.called (k:=k) g.base hb;have c:=(e.toLs n).mono q.keep;have l:gA k.I w.heap.size (w.alloc (.cells cells t)) w.heap.size=cells.size:=by
  unfold gA cellsIn;rw[if_neg (Nat.lt_irrefl _),j]
 refine dY.value ?_ ⟨_,.d (.ref w.heap.size 0 cells.toList ds c.1 c.2.1 (λi u y=>⟨?_,?_⟩) c.2.2),q,g.called hb⟩
 .unfold execOp;rw[r];refine fh ?_;simp only[Instr.box,newVar,newRow,bP,cJ,run_newObj,bV,hcells];rfl
 .show 0+i<gA k.I w.heap.size (w.alloc (.cells cells t)) w.heap.size;rw[l];have:=(aV.1 y).1;rw[ic]at this;omega
 .have:=vP (w:=w.alloc (.cells cells t)) (b:=w.heap.size) (t:=t) (us:=cells.toList) (by simpa using j) i;rw[aw,this];exact y
theorem Ms{fz:Bool}{t e:TypeId}{n:Nat}{d:TypeInfo}{z0:Value}{b:Array (Nat×Operand)}{s:List (Nat×Nat×X)}(r:o.op= .buildSlice t n b)(m:P.underlying t=some (.slice e))(h:P.info? e=some d)(C:d.zero=some z0)
  (D:n*d.size<=2^24) (v:(jE z0.cells (n*d.size)).all (·.oneCell')=true) (A:sr P (λi=>some (i*d.size,d.size)) (λ_=>e) b.toList=some s) {cs:List AV} (p:lF fr (zU fz (pz P e (jE z0.cells (n*d.size)).toList)) s=some cs)
  {k:aP} {a:Act} {w:World} (l:jX k w a o fr): ∃c,bZ k w c.toList cs/\(execOp a.eval o).run P w= .ok (.value (.slice (some ⟨w.heap.size,0,none⟩) n n)) (w.alloc (.cells c e)):=by
 have j: ∀x∈b.toList,x.2∈o.op.operands:=λx B=>by
  rw[r];simp only[Op.operands];simp;exact⟨x.1,by simpa using B⟩
 obtain⟨c,y,z⟩:=Bj (a:=a) l A j (GC fz (D0 (P:=P) (t:=e) (λu m=>rW.1 v u (by simpa using m)) k w)) p;refine⟨c,z,?_⟩;unfold execOp;rw[r];refine fh ?_;have hne: ¬(n*d.size>2^24):=by omega
 have g:Instr.fill (λi=>some (i*d.size,d.size)) (jE z0.cells (n*d.size)) (b.map λx=>(x.1,a.eval x.2)).toList=some c:=by rw[<-y];simp
 by_cases h0:n*d.size=0
 .have f: ∀q:Array Value,(Array.range (n*d.size)).map (λx=>q[x % q.size]!)=jE z0.cells (n*d.size):=λq=>by rw[h0];simp[jE]
  simp only[Instr.buildSlice,bP,run_underlying m,bV,sizeOf,typeInfo,run_program,h,cJ,if_neg hne,if_pos h0,f,g,newRow,run_newObj];rfl
 .have f:(Array.range (n*d.size)).map (λx=>z0.cells[x % z0.cells.size]!)=jE z0.cells (n*d.size):=rfl;simp only[Instr.buildSlice,bP,run_underlying m,bV,sizeOf,typeInfo,run_program,h,cJ,if_neg hne,if_neg h0,zeroValue,C,f,g,newRow,run_newObj];rfl
theorem U7{fz mu:Bool}{t:TypeId}{n:Nat}{g:Array (Nat×Operand)}{ci:CI}(O:o.op= .buildSlice t n g)(hc:ye P fz mu t n g.toList=some ci)(h:ci.sem fr s=some (d,s')):bA LL P o fr s d s'/\(ci.touch fr=3->jq LL P o fr s d s'):=by
 unfold ye at hc;split at hc
 .rename_i e R;split at hc
  .rename_i p r;split at hc
   .rename_i z0 S;split at hc
    .rename_i D;obtain⟨X,M,T,y⟩:=D;have v:A0 z0.cells n=(jE z0.cells (n*p.size)).toList:=by rw[<-T,a0A]
     have y:(jE z0.cells (n*p.size)).all (·.oneCell')=true:=by
      rw[<-Array.all_toList,<-v,js];intro x H;obtain⟨l,u,H⟩:=List.mem_flatten.1 H;obtain⟨_,rfl⟩:=List.mem_replicate.1 u;exact rW.1 y x (by simpa using H)
     rw[v]at hc;obtain⟨W,Q,z⟩:=bK hc;cases fz with
     |false=>
      simp only[l7,if_false]at z;subst z;obtain⟨cs,j,i⟩:=aT (show((lF fr _ W).bind λcs=>zx s mu e p.size n cs)=some (d,s')from h);unfold zx at i;split at i
      .rename_i E;obtain⟨A,C⟩:=E;obtain⟨x,I,rfl,G⟩:=Ka i;have key:jq LL P o fr s d (s++x):=by
        refine⟨x,rfl,λs2 _ N=> ?_⟩;rw[I]at N;intro B k a w c m;obtain⟨b,q,f⟩:=Ms (fz:=false) (P:=P) O R r S M y Q j c;have u:b.size=n*p.size:=by have:=q.1;simp at this;omega
        obtain⟨k',J,K,L⟩:=Kb m N (mu:=mu||(toLs cs).isNone) (e:=e) (sz:=p.size) (n:=n) (cap:=n) (cur:=b) (cs:=cs) (by rw[dL (by simp;omega)];exact q) A u (bg _) C G;exact dY.value f ⟨k',J,K,L⟩
       exact⟨key.op,λ_=>key⟩
      .cases i
     |true=>
      simp only[if_true]at z;subst z;obtain⟨U,rfl⟩:=eh h;obtain⟨cs,j,i⟩:=aT U;unfold lU at i;split at i
      .rename_i E;obtain⟨A,C⟩:=E;obtain⟨ds,F,rfl⟩:=bK i;refine⟨?_,λV=>by cases V⟩;intro B k a w c m;obtain⟨b,q,f⟩:=Ms (fz:=true) (P:=P) O R r S M y Q j c;have u:b.size=n*p.size:=by have:=q.1;simp at this;omega
       obtain⟨k',J,K,L⟩:=RR m (e:=e) (sz:=p.size) (n:=n) (cap:=n) (cur:=b) (cs:=cs) (by rw[dL (by simp;omega)];exact q) A u (bg _) C F;exact dY.value f ⟨k',J,K,L⟩
      .cases i
    .cases hc
   .cases hc
  .cases hc
 .cases hc
theorem Oa(z:Value)(n:Nat):jE #[z] n=(List.replicate n z).toArray:=by
 unfold jE;apply Array.ext';simp;refine gW λi=> ?_;simp only[dj,pG,List.getElem?_range'];by_cases h:i<n
 .simp[h,Nat.mod_one]
 .simp[h]
theorem NT{n:Int}(h:0<=n)(a:n<9223372036854775808):IntKind.i64.wrap n=n:=by
 simp only[IntKind.wrap,IntKind.bits,IntKind.signed];have:n % 2^64=n:=by omega
 simp only[this];simp;omega
theorem U0{
        mu:Bool} {t:TypeId} {p q:Operand} {ci:CI} (W:o.op= .makeSlice t p q) (hc:yd P mu t p q=some ci) (h:ci.sem fr s=some (d,s')):jq LL P o fr s d s':=by
 have hp:p∈o.op.operands:=by rw[W];simp[Op.operands]
 have hq:q∈o.op.operands:=by rw[W];simp[Op.operands]
 unfold yd at hc;split at hc
 .rename_i e x0 y0 c hx hy;split at hc
  .rename_i K C;split at hc
   .rename_i z0 hz;split at hc
    .rename_i O;obtain⟨c1,c2,c3⟩:=O;obtain rfl:=aJ hc;obtain⟨n,hn,h1⟩:=aT (show(((x0.ev fr).bind AV.int?).bind λn=>((y0.ev fr).bind AV.int?).bind λm=>zy s mu e K.bytes (cL P e z0) n m)=some (d,s')from h);obtain⟨m,hm,L⟩:=aT h1;obtain⟨xv,Z,V⟩:=aT hn;obtain⟨yv,a0,U⟩:=aT hm;unfold zy at L;split at L
     .rename_i z;obtain⟨d1,d2,d3,d4⟩:=z;obtain⟨x,Y,rfl,l⟩:=Ka (f:=λy=> .tsl s.length 1 (List.replicate n.toNat [y])) L;refine⟨x,rfl,λs2 _ D=> ?_⟩;rw[Y]at D;intro B k a w g X;have E:=(bU g hp hx Z).sc_eq (AV.int_sc V);have F:=(bU g hq hy a0).sc_eq (AV.int_sc U)
      have a2:z0.cells= #[z0]:=by cases z0<;>first|rfl|simp[Value.oneCell']at c2
      have G:bZ k w (List.replicate n.toNat z0) (List.replicate n.toNat (cL P e z0)):=by
       refine⟨by simp,λu c=> ?_,λi u d c R=> ?_⟩
       .obtain⟨_,rfl⟩:=List.mem_replicate.1 c;exact c2
       .rw[pG]at c R;split at c
        .rename_i T;rw[if_pos T]at R;cases c;cases R;exact AE ..
        .cases c
      have r:(jE #[z0] m.toNat).toList.take (n.toNat*1)=List.replicate n.toNat z0:=by
       rw[Oa];simp[List.take_replicate];omega
      have A:(jE #[z0] m.toNat).size=m.toNat*1:=by rw[Oa];simp
      have j:=Kb X D (mu:=mu) (e:=e) (sz:=1) (n:=n.toNat) (cap:=m.toNat) (cur:=jE #[z0] m.toNat) (cs:=List.replicate n.toNat (cL P e z0)) (d:=d) (x:=x) (by rw[r];exact G) (by simp) A a8 a8 (by
       cases mu with
       |true=>simpa using l
       |false=>
        simp only[l7,if_false]at l⊢;obtain⟨y,S,h3⟩:=bK l;have ht: ∀k:Nat,toLs (List.replicate k (cL P e z0))=some (List.replicate k y):=λk=>by
         induction k with
         |zero=>rfl
         |succ k ih=>simp[s8,toLs,S,ih]
        have Q: ∀k:Nat,chunk 1 k (List.replicate k y)=List.replicate k [y]:=λk=>by
         induction k with
         |zero=>rfl
         |succ k ih=>simp[s8,chunk,ih]
        rw[ht];simp only[eY,Q];rw[h3])
      obtain⟨k',m1,m2,m3⟩:=j;refine dY.value (v:= .slice (some ⟨w.heap.size,0,none⟩) n.toNat m.toNat) (w':=w.alloc (.cells (jE #[z0] m.toNat) e)) ?_ ⟨k',m1,m2,m3⟩;unfold execOp;rw[W];refine fh ?_;have N:(1:Int)<=K.bytes:=by omega
      have a3:m*1<=m*(K.bytes:Int):=Int.mul_le_mul_of_nonneg_left N a8;have H:IntKind.i64.wrap n=n:=NT d1 a8;have I:IntKind.i64.wrap m=m:=NT a8 a8;have hlarge:(decide (m<0)||decide ((K.bytes:Int)*m>2^48))=false:=by
       rw[Int.mul_comm];simp;omega
      have b:(((decide (m<0)||decide ((K.bytes:Int)*m>2^48))||decide (n<0))||decide (n>m))=false:=by
       rw[hlarge];simp;omega
      have J: ∀M:Array Value,(m.toNat=0\/M= #[z0])->(Array.range (m.toNat*1)).map (λx=>M[x % M.size]!)=jE #[z0] m.toNat:=λM a1=>by
       rcases a1 with h0|rfl
       .rw[h0];simp[jE]
       .rw[aD];rfl
      by_cases h0:m.toNat*1=0
      .simp only[Instr.makeSlice,E,F,asInt,asIntOf,bP,run_underlying c,bV,sizeOf,typeInfo,run_program,C,cJ,H,I,b,l7,if_false,run_askRoom,c1,if_pos h0,J _ (Or.inl (by omega:m.toNat=0)),newRow,run_newObj];rfl
      .simp only[Instr.makeSlice,E,F,asInt,asIntOf,bP,run_underlying c,bV,sizeOf,typeInfo,run_program,C,cJ,H,I,b,l7,if_false,run_askRoom,c1,if_neg h0,zeroValue,hz,a2,J _ (Or.inr rfl),newRow,run_newObj];rfl
     .cases L
    .cases hc
   .cases hc
  .cases hc
 .cases hc
theorem U8{m dst e:TypeId}{p:Operand}{x:X}(K:o.op= .convert m dst p)(Q:P.underlying m=some .string)(M:P.underlying dst=some (.slice e))(S:P.underlying e=some (.int .u8))(T:cX P m p=some x)(h:(CI.s2b x).sem fr s=some (d,s')):bA LL P o fr s d s':=by
 have hp:p∈o.op.operands:=by rw[K];simp[Op.operands]
 obtain⟨hc,rfl⟩:=eh h;obtain⟨b,hb,g⟩:=aT hc;obtain⟨V,J,E⟩:=aT hb;unfold FJ at g;split at g
 .rename_i R;obtain rfl:=aJ g;intro B k a w z A;have N:=(bU z hp T J).sc_eq (AV.str_sc E);have q:Below w.heap.size w (Lib.bytesWorld w e b):=⟨rfl,rfl,rfl,by rw[Lib.bytesWorld_size];omega,λj O=>Lib.bytesWorld_at_old w e b j O⟩
  refine dY.value (v:= .slice (some ⟨w.heap.size,0,none⟩) b.size (grownCap w b.size 0 e)) (w':=Lib.bytesWorld w e b) ?_ ⟨⟨gA k.I w.heap.size (Lib.bytesWorld w e b),k.own⟩,.d ?_,Ext.called A.base q,A.called q⟩
  .unfold execOp;rw[K];refine fh ?_;rw[N];exact Lib.run_convert_string_bytes w m dst e b Q M S
  .have t:(bytesRow b).length=b.size:=by simp[bytesRow]
   have H:=grownCap_ge w b.size 0 e;have F:grownCap w b.size 0 e<=maxLen:=grownCap_le_maxLen w b.size 0 e (by unfold maxLen;omega);unfold maxLen at F;have G:(bytesRow b).flatten=b.data.toList.map λx=>D.sc (.int .u8 x.toNat):=by
    unfold bytesRow
    induction b.data.toList with
    |nil=>rfl
    |cons y l U=>simp[U]
   refine RD.sl_mk (us:=b.data.toList.map λx=>Value.int .u8 x.toNat) t (λr L=> ?_) H a8 ?_ λ_=>⟨_,0,rfl,λi u f=> ?_⟩
   .unfold bytesRow at L;obtain⟨y,_,rfl⟩:=bM.1 L;rfl
   .rw[G];refine⟨by simp,λu f=> ?_,λi u d f n=> ?_⟩
    .obtain⟨y,_,rfl⟩:=bM.1 f;rfl
    .rw[dj]at f n;obtain⟨y,C,rfl⟩:=dy.1 f;rw[C]at n;cases n;exact .sc _
   .rw[dj]at f;obtain⟨y,C,rfl⟩:=dy.1 f;have hi:=(aV.1 C).1;have c:=Lib.bytesWorld_cell w e b i (by simpa using hi);rw[List.getD_eq_getElem?_getD,C]at c;rw[aw];refine⟨?_,c⟩;show i<(if w.heap.size<w.heap.size then k.I w.heap.size else cellsIn (Lib.bytesWorld w e b) w.heap.size);rw[if_neg (Nat.lt_irrefl _)]
    exact sN c
 .cases g
theorem U9{m dst e:TypeId}{p:Operand}{x:X}(S:o.op= .convert m dst p)(Z:P.underlying m=some .string)(V:P.underlying dst=some (.slice e))(hu:P.underlying e=some (.int .u8))(hx:cX P m p=some x)(h:(CI.s2o e x).sem fr s=some (d,s')):jq LL P o fr s d s':=by
 have hp:p∈o.op.operands:=by rw[S];simp[Op.operands]
 obtain⟨b,hb,c⟩:=aT (show((x.ev fr).bind AV.str?).bind (Cx s e)=some (d,s')from h);obtain⟨xv,Q,H⟩:=aT hb;unfold Cx at c;split at c
 .rename_i a0;obtain⟨rfl,rfl⟩:=fC (aJ c);refine⟨_,rfl,λs2 _ R=> ?_⟩;intro B k a w G A;have W:=(bU G hp hx Q).sc_eq (AV.str_sc H);have J:Below w.heap.size w (Lib.bytesWorld w e b):=⟨rfl,rfl,rfl,by rw[Lib.bytesWorld_size];omega,λj Y=>Lib.bytesWorld_at_old w e b j Y⟩
  have n:(bytesRow b).length=b.size:=by simp[bytesRow]
  have M:=grownCap_ge w b.size 0 e;have K:grownCap w b.size 0 e<=maxLen:=grownCap_le_maxLen w b.size 0 e (by unfold maxLen;omega);have t:b.data.size=b.size:=rfl;have L:(bytesRow b).flatten=b.data.toList.map λx=>D.sc (.int .u8 x.toNat):=by
   unfold bytesRow
   induction b.data.toList with
   |nil=>rfl
   |cons y l ih=>simp[ih]
  have q:eK (Lib.bytesWorld w e b) B e 1 (.slice (some ⟨w.heap.size,0,none⟩) b.size (grownCap w b.size 0 e)) b.size (b.data.toList.map λx=>Value.int .u8 x.toNat):=by
   refine⟨by simp[t],.inr ⟨w.heap.size,_,_,_,rfl,A.base,Lib.bytesWorld_at_new w e b,M,K,?_,?_,.inr (bg _)⟩⟩
   .simp[Lib.bytesCells,t];omega
   .simp only[Lib.bytesCells,qH,Array.toList_map,aD];rw[xI (by simp[t])]
  have N:w.heap.size<(Lib.bytesWorld w e b).heap.size:=by rw[Lib.bytesWorld_size];omega
  have U: ∀C,C<w.heap.size->dE k.I w.heap.size (b.size*1) C=k.I C:=λC E=>ix _ _ a8;obtain⟨F,O⟩:=A.newAt J U R (.row (.slice (some ⟨w.heap.size,0,none⟩) b.size (grownCap w b.size 0 e)) b.size) (.row e 1 b.size) (λC E=>by cases E;exact⟨bg _,N⟩) λ_=>⟨rfl,⟨_,q⟩,λg hg=>by cases hg;exact gE ..⟩
  refine dY.value (v:= .slice (some ⟨w.heap.size,0,none⟩) b.size (grownCap w b.size 0 e)) (w':=Lib.bytesWorld w e b) ?_ ⟨_,.tsl ?_ ⟨_,b.size,pZ A R _,by rw[n];exact bg _,λ_=>rfl⟩,F,O⟩
  .unfold execOp;rw[S];refine fh ?_;rw[W];exact Lib.run_convert_string_bytes w m dst e b Z V hu
  .refine uQ q ?_ n (λr T=> ?_) λg hg=> ?_
   .rw[L];refine⟨by simp,λu f=> ?_,λi u d f z=> ?_⟩
    .obtain⟨y,_,rfl⟩:=bM.1 f;rfl
    .rw[dj]at f z;obtain⟨y,hy,rfl⟩:=dy.1 f;rw[hy]at z;cases z;exact .sc _
   .unfold bytesRow at T;obtain⟨y,_,rfl⟩:=bM.1 T;rfl
   .cases hg;exact qN (gE ..).symm
 .cases c
theorem Dy{k:aP}{w:World}: ∀{us:List Value} {cs:List AV} {l:List UInt8},bZ k w us cs->iS cs=some l->us=l.map λx=>Value.int .u8 x.toNat
 |[],[],l,_,h=>by simp[iS]at h;subst h;rfl
 |[],_::_,_,h,_=>by simp[bZ]at h
 |_::_,[],_,h,_=>by simp[bZ]at h
 |u::us,c::cs,l,h,hl=>by
  obtain⟨y,a,g⟩:=aT (show(so c).bind (λb=>(iS cs).map (b:: ·))=some l from hl);obtain⟨l',j,rfl⟩:=bK g;have m:=Dy (us:=us) (cs:=cs) (l:=l') ⟨by simpa using h.1,λv d=>h.2.1 v (by simp[d]),λi v e d hc=>h.2.2 (i+1) v e (by simpa using d) (by simpa using hc)⟩ j;have h0:=h.2.2 0 u c rfl rfl;unfold so at a;split at a
  .rename_i n;split at a
   .rename_i o;obtain rfl:=aJ a;have f:=h0.d_inv;cases f;rw[m,bX];congr 2;have:(UInt8.ofNat n.toNat).toNat=n.toNat:=by
     rw[UInt8.toNat_ofNat'];omega
    rw[this];omega
   .cases a
  .cases a
theorem Y7{v:AV}{b:ByteArray}(h:tz (ir s v) v=some b): ∃p,iX s 1 v=some p/\iS p.2=some b.data.toList:=by
 unfold tz at h;split at h
 .rename_i id off n sz;split at h
  .rename_i e;subst e;obtain⟨cs,i,a⟩:=aT h;split at a
   .rename_i o;obtain⟨l,f,rfl⟩:=bK a;refine⟨(n,(cs.drop off).take n),?_,by simpa using f⟩;have c:nV (s[id]?)=some cs:=i;simp only[iX,c,eE];rw[if_pos ⟨trivial,by omega⟩];simp
   .cases a
  .cases h
 .rename_i id n sz;split at h
  .rename_i e;subst e;obtain⟨p,hp,a⟩:=aT h;split at a
   .rename_i g;obtain⟨l,f,rfl⟩:=bK a;refine⟨(n,p.2),?_,by simpa using f⟩;have j:gY n (s[id]?)=some p:=hp;simp only[iX,j,eE];rw[if_pos ⟨trivial,g⟩]
   .cases a
  .cases h
 .rename_i g a;obtain⟨rows,k,m⟩:=aT h;obtain⟨l,f,rfl⟩:=bK m;refine⟨(rows.length,rows.flatten.map .d),?_,by simpa using f⟩;unfold iX;split
  .exact absurd rfl (a _ _ _)
  .simp[slA]at k
  .exact absurd rfl (g _ _ _ _)
  .rw[k];rfl
theorem foldl_push: ∀(l:List UInt8) (b:ByteArray),(l.map λx=>((x.toNat:Nat):Int)).foldl (λr n=>r.push (UInt8.ofNat n.toNat)) b=⟨b.data++l.toArray⟩
 |[],b=>by simp
 |x::l,b=>by
  rw[bX,ig,foldl_push l];simp[ByteArray.push]
theorem TC{i dst e:TypeId}{p:Operand}{x:X}(F:o.op= .convert i dst p)(G:P.underlying i=some (.slice e))(D:P.underlying dst=some .string)(H:P.underlying e=some (.int .u8))(K:cX P i p=some x)(h:(CI.b2s x).sem fr s=some (d,s')):bA LL P o fr s d s':=by
 have hp:p∈o.op.operands:=by rw[F];simp[Op.operands]
 obtain⟨hc,rfl⟩:=eh h;obtain⟨v,J,u⟩:=aT hc;obtain⟨b,hb,rfl⟩:=bK u;obtain⟨m,hm,t⟩:=Y7 hb;refine bA.pure λB k a w q z=>⟨_,?_,.d (RD.sc _)⟩
 obtain⟨us,r,A⟩:=CB z (bU q hp K J) hm;have g:=Dy A t;unfold execOp;rw[F];refine fh ?_;obtain⟨E,⟨c,n,h0⟩|⟨C,c,n,l⟩⟩:=r
 .rw[n];have:b.data.toList=[]:=by
   have:us=[]:=gV (by rw[E,h0]);rw[this]at g;exact List.map_eq_nil_iff.1 g.symm
  rw[run_convert_bytes_nil w i e G H _ c dst D];congr 2;cases b with|mk d=>simp at this;subst this;rfl
 .rw[n,run_convert_bytes_string w i dst e _ _ c G H D];have f:=run_loadCells_list (P:=P) w C us (λj y I=>l j y I);rw[E,aD]at f;rw[g]at f;rw[run_bytesToString w C m.1 c (b.data.toList.map λx=>((x.toNat:Nat):Int)) (by rw[f,ll];rfl),foldl_push];congr 2;cases b with|mk d=>simp[ByteArray.empty,ByteArray.emptyWithCapacity];rfl
end
end Go.Bb
namespace Go.Bb
open Go Go.RowKit Go.Ab Go.Proofs.Lg
section
variable {LL:Nat->Code->CC->Prop} {P:Program} {o:Oper} {fr:Fr} {s s':List aa} {d:AV}
theorem yH(kt:TypeId)(us:List Value):gC (dv P kt) us=valC P kt us:=by
 unfold gC dv valC;cases b:P.underlying kt with
 |none=>rfl
 |some a=>cases a<;>rfl
def nF:Value->Bool
 | .int _ _=>true
 | .string _=>true
 | .bool _=>true
 |_=>false
theorem Ba: ∀{ks:List SK} {us vs:List Value} {b:Bool},bJ ks us vs=some b->(∀u∈us,nF u=true)/\ ∀v∈vs,nF v=true
 |[],[],[],_,_=>by simp
 | .i::ks,.int k a::us,.int k' c::vs,b,h=>by
  unfold bJ at h;split at h
  .obtain⟨r,d,_⟩:=bK h;have:=Ba d;exact⟨by simpa[nF]using this.1,by simpa[nF]using this.2⟩
  .cases h
 | .s::ks,.string a::us,.string c::vs,b,h=>by
  unfold bJ at h;obtain⟨r,d,_⟩:=bK h;have:=Ba d;exact⟨by simpa[nF]using this.1,by simpa[nF]using this.2⟩
 | .b::ks,.bool a::us,.bool c::vs,b,h=>by
  unfold bJ at h;obtain⟨r,d,_⟩:=bK h;have:=Ba d;exact⟨by simpa[nF]using this.1,by simpa[nF]using this.2⟩
 |[],_::_,_,_,h=>by simp[bJ]at h
 |[],[],_::_,_,h=>by simp[bJ]at h
 |k::ks,[],_,_,h=>by cases k<;>simp[bJ]at h
 |k::ks,u::us,[],_,h=>by cases k<;>simp[bJ]at h
theorem Bc: ∀{ks:List SK} {us vs:List Value},bJ ks us vs=some true->us=vs
 |[],[],[],_=>rfl
 | .i::ks,.int k a::us,.int k' c::vs,h=>by
  unfold bJ at h;split at h
  .rename_i hk;subst hk;obtain⟨r,d,hb⟩:=bK h;simp only[dW,beq_iff_eq]at hb;obtain⟨rfl,rfl⟩:=hb;rw[Bc d]
  .cases h
 | .s::ks,.string a::us,.string c::vs,h=>by
  unfold bJ at h;obtain⟨r,d,hb⟩:=bK h;simp only[dW,beq_iff_eq]at hb;obtain⟨ha,rfl⟩:=hb;rw[ByteArray.toList_eq,ByteArray.toList_eq]at ha;rw[Bc d,ByteArray.ext (Array.toList_inj.mp ha)]
 | .b::ks,.bool a::us,.bool c::vs,h=>by
  unfold bJ at h;obtain⟨r,d,hb⟩:=bK h;simp only[dW,beq_iff_eq]at hb;obtain⟨rfl,rfl⟩:=hb;rw[Bc d]
 |[],_::_,_,h=>by simp[bJ]at h
 |[],[],_::_,h=>by simp[bJ]at h
 |k::ks,[],_,h=>by cases k<;>simp[bJ]at h
 |k::ks,u::us,[],h=>by cases k<;>simp[bJ]at h
theorem MB(n:Nat){u:Value}(h:nF u=true):Instr.sameBits n u u=true:=by
 cases u<;>simp[nF]at h<;>cases n<;>simp[Instr.sameBits,beq_toListBytes]
theorem Yy{ag:Bool}{us:List Value}(h: ∀u∈us,nF u=true)(hne:ag=false->us≠[]):Instr.sameBits 10000 (gC ag us) (gC ag us)=true:=by
 cases ag with
 |true=>
  show Instr.sameBits (9999+1) (.agg us.toArray) (.agg us.toArray)=true;rw[Instr.sameBits];simp only[beq_self_eq_true,Bool.true_and,js];rintro⟨x,y⟩ hxy;have:x=y/\x∈us:=by
   have a:(us.zip us)=us.map λu=>(u,u):=by
    clear h hne hxy
    induction us with
    |nil=>rfl
    |cons u us e=>simp[e]
   simp only[a]at hxy;obtain⟨u,c,b⟩:=bM.1 hxy;cases b;exact⟨rfl,c⟩
  obtain⟨rfl,d⟩:=this;exact MB _ (h x d)
 |false=>
  cases us with
  |nil=>exact absurd rfl (hne rfl)
  |cons u us=>exact MB _ (h u (by simp))
theorem ug{em:Bool}{w:World}: ∀(d m:Nat) (t:TypeId) (ks:List SK),d<=m->dU P d t=some ks-> ∀us:List Value,us.length=ks.length->(Instr.checkKey em m t (valC P t us)).run P w= .ok () w
 |0,_,_,_,_,h=>by simp[dU]at h
 |d+1,0,_,_,hm,_=>by omega
 |d+1,m+1,t,ks,hm,h=>by
  intro us S;have L: ∀E v,P.underlying t=some E->(match E with| .int _| .string| .bool=>True|_=>False)->(Instr.checkKey em (m+1) t v).run P w= .ok () w:=λE v b T=>by
   unfold Instr.checkKey;simp only[bP,run_underlying b,bV];cases E<;>first|exact T.elim|rfl
  unfold dU at h;split at h
  .rename_i q b;exact L _ _ b trivial
  .rename_i b;exact L _ _ b trivial
  .rename_i b;exact L _ _ b trivial
  .rename_i n e b;have I:valC P t us= .agg us.toArray:=by unfold valC;rw[b]
   rw[I];split at h
   .rename_i k G;split at h
    .rename_i hc;obtain rfl:=aJ h;obtain⟨V,u⟩:=vB.1 hc.2.2;obtain⟨_,z,B,_⟩:=JU G;rw[u]at z;cases z;have Q:(List.replicate n k).flatten.length=n*k.length:=by simp
     unfold Instr.checkKey;simp only[bP,run_underlying b,bV];simp only[Std.Legacy.Range.forIn_eq_forIn_range',Std.Legacy.Range.size,pI,Nat.add_one_sub_one,Nat.div_one];have key: ∀(C:List Nat),(∀i∈C,i<n)->(forIn C PUnit.unit (λi _=>do
       let x <-sizeOf e;let x <-part e us.toArray (i*x)
       Instr.checkKey em m e x
       pure (ForInStep.yield PUnit.unit)):Sem PUnit).run P w= .ok PUnit.unit w:=by
      intro C
      induction C with
      |nil=>intro _;simp
      |cons i C J=>
       intro hi;have H:=hi i (by simp);have l:i*k.length+k.length<=us.toArray.size:=by
        have:(i+1)*k.length<=n*k.length:=jI _ H;rw[fQ,qP]at this;simp;omega
       have p:=xa (w:=w) G (cs:=us.toArray) (off:=i*k.length) l;have c:=ug (em:=em) (w:=w) d m e k a8 G ((us.toArray.toList.drop (i*k.length)).take k.length) (by simp;simp at l;omega);simp only[List.forIn_cons,bP,sizeOf,typeInfo,run_program,u,cJ,bV,B,p,c];have:=J λj R=>hi j (by simp[R])
       simpa only[bP,sizeOf,typeInfo,run_program,u,cJ,bV,B]using this
     have K:=key (List.range' 0 n) (λi hi=>by simp at hi;omega);rw[K];rfl
    .cases h
   .cases h
  .rename_i N b;have I:valC P t us= .agg us.toArray:=by unfold valC;rw[b]
   rw[I];split at h
   .rename_i U;split at h
    .rename_i a hk;split at h
     .rename_i hc;obtain rfl:=aJ h;unfold Instr.checkKey;simp only[bP,run_underlying b,bV];rw[<-Array.forIn_toList];have key: ∀(r:List Field) (a:List (List SK)) (off:Nat),r.mapM (λf=>dU P d f.type)=some a->dU.offsOk r a off=true->off+a.flatten.length<=us.length->
        (forIn r PUnit.unit (λf _=>do
         if f.name≠ "_" then do
          let x <-part f.type us.toArray f.offset
          Instr.checkKey em m f.type x
          pure (ForInStep.yield PUnit.unit)
         else pure (ForInStep.yield PUnit.unit)):Sem PUnit).run P w= .ok PUnit.unit w:=by
       intro r
       induction r with
       |nil=>intro _ _ _ _ _;simp
       |cons f r J=>
        intro a off s F O;rw[List.mapM_cons]at s;cases g:dU P d f.type with
        |none=>rw[g]at s;cases s
        |some D=>
         cases y:r.mapM λf=>dU P d f.type with
         |none=>rw[g,y]at s;cases s
         |some o=>
          rw[g,y]at s;obtain rfl:D::o=a:=aJ s;simp only[dU.offsOk,dW,decide_eq_true_eq]at F;rw[gG,aQ]at O;have p:=xa (w:=w) g (cs:=us.toArray) (off:=off) (by simp;omega);have c:=ug (em:=em) (w:=w) d m f.type D a8 g ((us.toArray.toList.drop off).take D.length) (by simp;omega)
          have M:=J o (off+D.length) y F.2 a8;by_cases A:f.name≠ "_"
          .simp only[List.forIn_cons,bP,if_pos A,F.1,p,c,bV,cJ];exact M
          .simp only[List.forIn_cons,bP,if_neg A,bV,cJ];exact M
      have K:=key N.toList a 0 hk hc.2.1 (by rw[S];omega);rw[K];rfl
     .cases h
    .cases h
   .cases h
  .cases h
def tP(ag:Bool)(k:aP)(w:World)(es:List (List Value×AV))(l:List MapEntry):Prop:=
 l.length=es.length/\ ∀(i:Nat) (e:MapEntry) (x:List Value×AV),l[i]?=some e->es[i]?=some x->e.key=gC ag x.1/\RA k w e.val x.2
theorem tP.tail{ag:Bool}{k:aP}{w:World}{x:List Value×AV}{es:List (List Value×AV)}{e:MapEntry}{l:List MapEntry}(h:tP ag k w (x::es) (e::l)):tP ag k w es l:=
 ⟨by have:=h.1;simpa using this,λi a d b c=>h.2 (i+1) a d b c⟩
def vn(k:aP)(w:World)(i0:Nat)(es:List (List Value×AV))(l:List MapEntry):Option (Nat×AV)->Option (Nat×Value)->Prop
 |none,none=>True
 |some (i,x),some (j,v)=>i=j/\i0<=i/\RA k w v x/\ ∃e q,l[i-i0]?=some e/\es[i-i0]?=some (q,x)/\e.val=v
 |_,_=>False
theorem vn.step{k:aP}{w:World}{i0:Nat}{x:List Value×AV}{es:List (List Value×AV)}{e:MapEntry}{l:List MapEntry}: ∀{r:Option (Nat×AV)} {q:Option (Nat×Value)},vn k w (i0+1) es l r q->vn k w i0 (x::es) (e::l) r q
 |none,none,_=>trivial
 |some (i,y),some (j,v),h=>by
  obtain⟨rfl,g,b,a,q,c,d,f⟩:=h;have hi:i-i0=(i-(i0+1))+1:=by omega
  exact⟨rfl,by omega,b,a,q,by rw[hi];exact c,by rw[hi];exact d,f⟩
 |none,some _,h=>h.elim
 |some _,none,h=>h.elim
theorem IU{ks:List SK}{kt:TypeId}(hk:dU P 12 kt=some ks){k:aP}{w:World}{key:List Value}: ∀(es:List (List Value×AV)) (l:List MapEntry) (i:Nat) (r:Option (Nat×AV)),tP (dv P kt) k w es l->ey ks key es i=some r->
  ∃q,(Instr.findAsking kt (valC P kt key) l i).run P w= .ok q w/\vn k w i es l r q
 |[],[],i,r,_,h=>by
  simp[ey]at h;subst h;exact⟨none,by simp[Instr.findAsking],trivial⟩
 |[],e::l,i,r,he,_=>by have:=he.1;simp at this
 |x::es,[],i,r,he,_=>by have:=he.1;simp at this
 |x::es,e::l,i,r,he,h=>by
  obtain⟨b,hb,a⟩:=aT (show((bJ ks key x.1).bind λb=>if b=true then some (some (i,x.2))else ey ks key es (i+1))=some r from h);obtain⟨f,g⟩:=he.2 0 e x rfl rfl;have j:(Op.equal kt (valC P kt key) e.key).run P w= .ok b w:=by
   rw[f,yH];exact Bf 12 10000 kt ks a8 hk w key x.1 b hb
  unfold Instr.findAsking;simp only[bP,j,bV];cases b with
  |true=>
   simp only[if_true]at a⊢;obtain rfl:=aJ a;exact⟨some (i,e.val),rfl,rfl,bg _,g,e,x.1,by simp,by simp,rfl⟩
  |false=>
   simp only[l7,if_false]at a⊢;obtain⟨q,c,d⟩:=IU hk es l (i+1) r he.tail a;exact⟨q,c,d.step⟩
theorem J4{ks:List SK}{kt:TypeId}{g:TypeDesc}(m:P.underlying kt=some g)(hk:dU P 12 kt=some ks){k:aP}{w:World}{key:List Value}: ∀(es:List (List Value×AV)) (l:List MapEntry) (i:Nat) (r:Option (Nat×AV)),tP (dv P kt) k w es l->ey ks key es i=some r->
  Instr.findNow g (valC P kt key) l i=none\/ ∃q,Instr.findNow g (valC P kt key) l i=some q/\vn k w i es l r q
 |[],[],i,r,_,h=>by
  simp[ey]at h;subst h;exact .inr ⟨none,rfl,trivial⟩
 |[],e::l,i,r,he,_=>by have:=he.1;simp at this
 |x::es,[],i,r,he,_=>by have:=he.1;simp at this
 |x::es,e::l,i,r,he,h=>by
  obtain⟨b,hb,a⟩:=aT (show((bJ ks key x.1).bind λb=>if b=true then some (some (i,x.2))else ey ks key es (i+1))=some r from h);obtain⟨s,t⟩:=he.2 0 e x rfl rfl;have j:Instr.sameNow g (valC P kt key) e.key=none\/Instr.sameNow g (valC P kt key) e.key=some b:=by
   rw[s,yH];unfold dU at hk;rw[m]at hk;cases g with
   |int q=>
    dsimp only at hk;split at hk
    .obtain rfl:=aJ hk;obtain⟨o,f⟩:=sF hb
     match key,o,hb with
     |[u],_,hb=>
      generalize n:x.1=x1 at hb f
      match x1,f with
      |[v],_=>
       unfold bJ at hb;split at hb<;>first|(cases hb;done)|skip
       all_goals first
        |(rename_i a c d;cases a;done)
        |skip
       rename_i a c d;cases a;cases c;cases d;split at hb
       .rename_i p;subst p;simp[bJ]at hb;right;subst hb;unfold valC;rw[m];simp[Instr.sameNow]
       .cases hb
    .cases hk
   |string=>
    dsimp only at hk;split at hk
    .obtain rfl:=aJ hk;obtain⟨o,f⟩:=sF hb
     match key,o,hb with
     |[u],_,hb=>
      generalize n:x.1=x1 at hb f
      match x1,f with
      |[v],_=>
       unfold bJ at hb;split at hb<;>first|(cases hb;done)|skip
       all_goals first
        |(rename_i a c d;cases a;done)
        |skip
       rename_i a c d;cases a;cases c;cases d;simp[bJ]at hb;right;subst hb;unfold valC;rw[m];simp[Instr.sameNow,beq_toListBytes]
    .cases hk
   |bool=>
    dsimp only at hk;split at hk
    .obtain rfl:=aJ hk;obtain⟨o,f⟩:=sF hb
     match key,o,hb with
     |[u],_,hb=>
      generalize n:x.1=x1 at hb f
      match x1,f with
      |[v],_=>
       unfold bJ at hb;split at hb<;>first|(cases hb;done)|skip
       all_goals first
        |(rename_i a c d;cases a;done)
        |skip
       rename_i a c d;cases a;cases c;cases d;simp[bJ]at hb;right;subst hb;unfold valC;rw[m];simp[Instr.sameNow]
    .cases hk
   |_=>exact .inl rfl
  unfold Instr.findNow;rcases j with j|j
  .rw[j];exact .inl rfl
  .rw[j];cases b with
   |true=>
    simp only[if_true]at a;obtain rfl:=aJ a;exact .inr ⟨_,rfl,rfl,bg _,t,e,x.1,by simp,by simp,rfl⟩
   |false=>
    simp only[l7,if_false]at a;rcases J4 m hk es l (i+1) r he.tail a with c|⟨q,c,d⟩
    .exact .inl c
    .exact .inr ⟨q,c,d.step⟩
theorem yr{ks:List SK}{kt:TypeId}(hk:dU P 12 kt=some ks){k:aP}{w:World}{key:List Value}{es:List (List Value×AV)}{l:List MapEntry}{r:Option (Nat×AV)}(b:tP (dv P kt) k w es l)(h:ey ks key es 0=some r):
  ∃q,(Instr.findKey kt (valC P kt key) l).run P w= .ok q w/\vn k w 0 es l r q:=by
 cases a:P.underlying kt with
 |none=>unfold dU at hk;rw[a]at hk;cases hk
 |some c=>
  unfold Instr.findKey;simp only[bP,run_underlying a,bV];rcases J4 a hk es l 0 r b h with h1|⟨q,h1,h2⟩
  .rw[h1];exact IU hk es l 0 r b h
  .rw[h1];exact⟨q,rfl,h2⟩
end
end Go.Bb
namespace Go.Bb
open Go Go.RowKit Go.Ab Go.Proofs.Lg
section
variable {LL:Nat->Code->CC->Prop} {P:Program} {o:Oper} {fr:Fr} {s s':List aa} {d:AV}
theorem RA.keyK_eq{k:aP}{w:World}{v:Value}{x:AV}{ag:Bool}{ks:List SK}{us:List Value}{t:TypeId}(h:RA k w v x)(d:x.keyK ag ks=some us)(c:ag=dv P t):v=valC P t us/\us.length=ks.length:=by
 obtain⟨us',b,a⟩:=aT d;split at a
 .obtain rfl:=aJ a;exact⟨(h.key_eq b c).1,by assumption⟩
 .cases a
theorem kz.ents{ag:Bool}{k:aP}{w:World}{es:List (List Value×AV)}{a:Array MapEntry}{b:Nat}(h:kz ag k w es a b):tP ag k w es a.toList:=
 ⟨by simpa using h.1,λi e x f g=>let⟨c,d,_⟩:=h.2.2 i e x (by simpa using f) g;⟨c,d⟩⟩
theorem uB{B:Nat}{k:aP}{w:World}(d:St LL B k s w){id b:Nat}{ag:Bool}{es es':List (List Value×AV)}{a ents':Array MapEntry}{f clk':Nat}(p:s[id]?=some (.map ag es))(hb:k.own[id]?=some (.blk b))(l:w.heap[b]?=some (.map a f))(o:k.I b=0)
  (hm:Mono k w k (w.putObj b (.map ents' clk'))->kz ag k (w.putObj b (.map ents' clk')) es' ents' clk'):Mono k w k (w.putObj b (.map ents' clk'))/\Ext B k w k (w.putObj b (.map ents' clk'))/\St LL B k (s.set id (.map ag es')) (w.putObj b (.map ents' clk')):=by
 have i:=kP l;have c:=d.lies id _ b hb rfl;have hk:jr k.I w k.I (w.putObj b (.map ents' clk')):=λm q u r hc=>⟨r,by
  have hne:m≠b:=by rintro rfl;unfold World.cell? at hc;rw[l]at hc;cases hc
  exact(vG (w:=w) (World.putObj_heap_other hne)).trans hc⟩
 have h:Below B w (w.putObj b (.map ents' clk')):=⟨rfl,rfl,rfl,by simp,λj t=>World.putObj_heap_other a8⟩
 refine⟨sS hk,d.upd (k':=k) hb (.map ag es') (rz hb) (dM.refl _) hk h (λn g=>by cases g;exact⟨.inl rfl,by simpa using c.2,c.1⟩)
  (λn _ hne=>⟨World.putObj_heap_other (λe=>hne (by rw[e];rfl)),rfl⟩) ⟨ents',clk',World.putObj_heap_same i,hm (sS hk),o⟩⟩
theorem TZ{t kt et:TypeId}(q:o.op= .makeMap t none)(h:(CI.mkm (dv P kt)).sem fr s=some (d,s')):jq LL P o fr s d s':=by
 obtain⟨rfl,rfl⟩:=fC (aJ (show some (AV.mp s.length,s++[aa.map (dv P kt) []])=some (d,s')from h));refine⟨_,rfl,λs2 _ m=> ?_⟩;intro B k a w n c;have hb:Below w.heap.size w (w.alloc (.map #[] 0)):=(Below.refl _ _).alloc (bg _) _;have l:(w.alloc (.map #[] 0)).heap[w.heap.size]?=some (.map #[] 0):=heap_alloc_new w _;have g:=kP l
 have p: ∀b,b<w.heap.size->dE k.I w.heap.size 0 b=k.I b:=λb hb=>ix _ _ a8;obtain⟨f,j⟩:=c.newAt hb p m (.blk w.heap.size) (.map (dv P kt) []) (λb hb=>by cases hb;exact⟨bg _,g⟩) λ_=>⟨#[],0,l,⟨rfl,rfl,λi e x f _=>by simp at f⟩,gE ..⟩
 refine dY.value (v:= .map (some w.heap.size)) ?_ ⟨_,.mp (pZ c m _),f,j⟩;unfold execOp;rw[q];refine fh ?_;simp only[Instr.makeMap,qR,bP,cJ,run_newObj,bV];rfl
theorem U4{x:Operand}{e sz:Nat}{v:Value}(f:o.op= .move x\/o.op= .assign x)(p:x= .const v)(j:ES v=true)(h:(CI.nlr e sz).sem fr s=some (d,s')):jq LL P o fr s d s':=by
 obtain⟨rfl,rfl⟩:=fC (aJ (show some (AV.tsl s.length sz [],s++[aa.row e sz 0])=some (d,s')from h));obtain rfl:v= .slice none 0 0:=by
  unfold ES at j;split at j
  .rfl
  .cases j
 refine⟨_,rfl,λs2 _ l=> ?_⟩;intro B k a w m c;obtain⟨n,i⟩:=c.newAt (Below.refl _ _) (I':=k.I) (λb _=>rfl) l (.row (.slice none 0 0) 0) (.row e sz 0) (λb hb=>by cases hb) λ_=>⟨rfl,⟨[],by simp,.inl ⟨rfl,rfl⟩⟩,λg hg=>by cases hg⟩
 refine dY.value (v:= .slice none 0 0) ?_ ⟨_,.tsl (RD.sl_mk (us:=[]) rfl (by simp) a8 a8 ⟨rfl,by simp,by simp⟩ (by simp)) ⟨_,0,pZ c l _,bg _,λ_=>rfl⟩,n,i⟩;subst p;unfold execOp;rcases f with f|f<;>rw[f]<;>rfl
theorem O7{e:TypeId}{z:AV}(h:xr P e=some z)(k:aP)(w:World): ∃v,(zeroValue e).run P w= .ok v w/\ ∀k w,RA k w v z:=by
 unfold xr at h;split at h
 .rename_i i hi;split at h
  .rename_i v a;exact⟨v,by simp[zeroValue,typeInfo,hi,a],λk w=>AA h k w⟩
  .cases h
 .cases h
theorem TW{t kt et:TypeId}{ok:Bool}{p q:Operand}{m x:X}{ks:List SK}{z:AV}(Z:o.op= .lookup t p q ok)(C:P.underlying t=some (.map kt et))(hm:cX P t p=some m)(hx:cX P kt q=some x)(hk:dU P 12 kt=some ks)(hz:xr P et=some z)
  (h:(CI.lkp (dv P kt) ks z ok m x).sem fr s=some (d,s')):bA LL P o fr s d s':=by
 have hp:p∈o.op.operands:=by rw[Z];simp[Op.operands]
 have hq:q∈o.op.operands:=by rw[Z];simp[Op.operands]
 obtain⟨hc,rfl⟩:=eh h;obtain⟨key,K,T⟩:=aT hc;obtain⟨kv,W,H⟩:=aT K;obtain⟨mv,Y,J⟩:=aT T;refine bA.pure λB k a w F a1=> ?_;obtain⟨D,hl⟩:=(bU F hq hx W).keyK_eq (P:=P) (t:=kt) H rfl;obtain⟨zv,L,M⟩:=O7 hz k w;have hr:=bU F hp hm Y
 have G: ∀(v:Value) (N:Bool) (O:AV),RA k w v O->(Instr.lookup t (a.eval p) (a.eval q) ok).run P w= .ok (if ok then .tuple #[v,.bool N]else v) w->d=(if ok then .tup [O,sn N]else O)->
   ∃v,(execOp a.eval o).run P w= .ok (.value v) w/\RA k w v d:=λv N O h1 S h3=>by
  refine⟨_,by unfold execOp;rw[Z];exact fh S,?_⟩;subst h3;cases ok with
  |false=>exact h1
  |true=>
   refine .tup (us:=[v,.bool N]) rfl λi u c C hc=> ?_
   match i with
   |0=>simp at C hc;subst C;subst hc;exact h1
   |1=>simp at C hc;subst C;subst hc;exact .d (RD.sc _)
   |i+2=>simp at C
 unfold rH at J;split at J
 .rename_i id;obtain⟨es,V,U⟩:=aT J;obtain⟨r,a0,rfl⟩:=bK U;obtain⟨b,hb,A⟩:=hr.mp_inv;obtain⟨b',I,Q,g1,g2,g3,_⟩:=a1.map (yN V);rw[hb]at g1;cases g1;obtain⟨R,f,g⟩:=yr hk g3.ents a0;have n: ∀em,(Instr.checkKey em 10000 kt (a.eval q)).run P w= .ok () w:=λem=>by rw[D];exact ug 12 10000 kt ks a8 hk key hl
  rw[<-D]at f;have E:(getObj b).run P w= .ok (.map I Q) w:=by simp[getObj,Sem.run,g2]
  match r,R,g with
  |none,none,_=>
   refine G zv false z (M k w) ?_ rfl;simp only[Instr.lookup,bP,run_underlying C,bV,A,E,cJ,n,f,L]
  |some (i,y),some (j,v),g=>
   obtain⟨_,_,S,_⟩:=g;refine G v true y S ?_ rfl;simp only[Instr.lookup,bP,run_underlying C,bV,A,E,cJ,n,f]
 .obtain rfl:=aJ J;have A:=hr.sc_eq (u:= .map none) rfl;have n: ∀em,(Instr.checkKey em 10000 kt (a.eval q)).run P w= .ok () w:=λem=>by rw[D];exact ug 12 10000 kt ks a8 hk key hl
  obtain⟨R,f,g⟩:=yr (P:=P) (kt:=kt) (ks:=ks) (key:=key) (k:=k) (w:=w) (es:=[]) (l:=[]) (r:=none) hk ⟨rfl,λi e x he _=>by simp at he⟩ rfl;rw[<-D]at f;cases R with
  |none=>
   refine G zv false z (M k w) ?_ rfl;simp only[Instr.lookup,bP,run_underlying C,bV,A,cJ,n,f,L]
  |some _=>exact g.elim
 .cases J
theorem Et{ag:Bool}{us:List Value}{w:World}(h: ∀u∈us,nF u=true)(hne:ag=false->us≠[]):(Instr.keyThatStays (gC ag us) (gC ag us)).run P w= .ok (gC ag us) w:=by
 simp[Instr.keyThatStays,Yy h hne]
theorem Ew{d:Nat}{t:TypeId}{ks:List SK}(h:dU P d t=some ks)(ha:dv P t=false):ks≠[]:=by
 cases d with
 |zero=>simp[dU]at h
 |succ d=>
  unfold dU at h;unfold dv at ha;split at h
  .split at h
   .obtain rfl:=aJ h;simp
   .cases h
  .split at h
   .obtain rfl:=aJ h;simp
   .cases h
  .split at h
   .obtain rfl:=aJ h;simp
   .cases h
  .rename_i a;rw[a]at ha;cases ha
  .rename_i a;rw[a]at ha;cases ha
  .cases h
theorem Bk{ks:List SK}{key:List Value}: ∀(es:List (List Value×AV)) (i0 i:Nat) (y:AV),ey ks key es i0=some (some (i,y))->i0<=i/\es[i-i0]?=some (key,y)/\ ∀u∈key,nF u=true
 |[],_,_,_,h=>by simp[ey]at h
 |x::es,i0,i,y,h=>by
  obtain⟨b,hb,a⟩:=aT (show((bJ ks key x.1).bind λb=>if b=true then some (some (i0,x.2))else ey ks key es (i0+1))=_ from h);cases b with
  |true=>
   simp only[if_true]at a;obtain⟨rfl,rfl⟩:=fC (aJ (aJ a));refine⟨bg _,?_,(Ba hb).1⟩;rw[Bc hb];simp
  |false=>
   simp only[l7,if_false]at a;obtain⟨e,c,d⟩:=Bk es (i0+1) i y a;have hi:i-i0=(i-(i0+1))+1:=by omega
   exact⟨by omega,by rw[hi];exact c,d⟩
theorem kz.set{ag:Bool}{k:aP}{w:World}{es:List (List Value×AV)}{a:Array MapEntry}{c:Nat}(h:kz ag k w es a c){i:Nat}{x:List Value×AV}{f:MapEntry->MapEntry}(r: ∀e y,a[i]?=some e->es[i]?=some y->(f e).key=gC ag x.1/\RA k w (f e).val x.2/\(f e).born=e.born):
  kz ag k w (es.set i x) (a.modify i f) c:=by
 obtain⟨p,q,o⟩:=h;refine⟨by simp[p],by simp[q],λj e y d b=> ?_⟩;rw[xu]at d;rw[fB]at b;by_cases n:i=j
 .subst n;rw[if_pos rfl]at d b;obtain⟨m,g,rfl⟩:=bK d;split at b
  .obtain rfl:=aJ b;have l:i<es.length:=by assumption
   obtain⟨s,t,u⟩:=r m es[i] g (bQ l);exact⟨s,t,by rw[u];exact(o i m es[i] g (bQ l)).2.2⟩
  .cases b
 .rw[if_neg n]at d b;exact o j e y d b
theorem kz.push{ag:Bool}{k:aP}{w:World}{es:List (List Value×AV)}{a:Array MapEntry}{b:Nat}(h:kz ag k w es a b){x:List Value×AV}{v:Value}(l:RA k w v x.2):kz ag k w (es++[x]) (a.push {key:=gC ag x.1,val:=v,born:=b}) (b+1):=by
 obtain⟨d,f,g⟩:=h;refine⟨by simp[d],by simp[f],λj e y c m=> ?_⟩;rcases rj m with hy2|⟨rfl,rfl⟩
 .have i:=(aV.1 hy2).1;rw[Array.getElem?_push,if_neg a8]at c;exact g j e y c hy2
 .rw[Array.getElem?_push,if_pos d.symm]at c;obtain rfl:=aJ c;exact⟨rfl,l,f⟩
theorem U2{t kt et:TypeId}{p q v:Operand}{m x y:X}{ks:List SK}(Q:o.op= .mapUpdate t p q v)(hu:P.underlying t=some (.map kt et))(hm:cX P t p=some m)(hx:cX P kt q=some x)(hy:cX P et v=some y)(hk:dU P 12 kt=some ks)
  (h:(CI.mup (dv P kt) ks m x y).sem fr s=some (d,s')):bA LL P o fr s d s':=by
 have hp:p∈o.op.operands:=by rw[Q];simp[Op.operands]
 have hq:q∈o.op.operands:=by rw[Q];simp[Op.operands]
 have hv:v∈o.op.operands:=by rw[Q];simp[Op.operands]
 obtain⟨key,N,Z⟩:=aT (show(((x.ev fr).bind (AV.keyK (dv P kt) ks)).bind λkey=>(y.ev fr).bind λu=>(m.ev fr).bind λp=>pq (dv P kt) ks s key u p)=some (d,s')from h);obtain⟨kv,a4,H⟩:=aT N;obtain⟨yv,a6,a0⟩:=aT Z;obtain⟨mv,a5,W⟩:=aT a0;intro B k a w l J;obtain⟨K,hl⟩:=(bU l hq hx a4).keyK_eq (P:=P) (t:=kt) H rfl
 have hr:=bU l hp hm a5;have S:=bU l hv hy a6;have D: ∀em,(Instr.checkKey em 10000 kt (a.eval q)).run P w= .ok () w:=λem=>by rw[K];exact ug 12 10000 kt ks a8 hk key hl
 unfold pq at W;split at W
 .rename_i id;obtain⟨es,a3,a1⟩:=aT W;obtain⟨r,R,L⟩:=bK a1;obtain⟨rfl,rfl⟩:=fC L;have F:=yN a3;obtain⟨b,hb,O⟩:=hr.mp_inv;obtain⟨b',f,n,g1,U,V,gI⟩:=J.map F;rw[hb]at g1;cases g1;obtain⟨fq,z,E⟩:=yr hk V.ents R;rw[<-K]at z;have A:(getObj b).run P w= .ok (.map f n) w:=by simp[getObj,Sem.run,U]
  have C: ∀ob,(setObj b ob).run P w= .ok () (w.putObj b ob):=λob=>by simp[setObj,Sem.run,U,World.putObj]
  have g:a.eval q=gC (dv P kt) key:=by rw[K,yH]
  match r,fq,E with
  |none,none,_=>
   obtain⟨_,L,I⟩:=uB J (es':=es++[(key,yv)]) (ents':=f.push {key:=gC (dv P kt) key,val:=a.eval v,born:=n}) (clk':=n+1) F hb U gI λc=>(V.mono c).push (S.mono c);refine dY.skip ?_ ⟨k,RA.undf,L,I⟩;unfold execOp;rw[Q];refine xc ?_;simp only[Instr.mapUpdate,bP,run_underlying hu,bV,O,A,D,z,C];rw[g]
  |some (i,y'),some (j,v'),E=>
   obtain⟨rfl,_,h2,e,qk,h3,Y,h5⟩:=E;obtain⟨_,G,T⟩:=Bk es 0 i y' R;simp only[pI]at h3 Y G;rw[G]at Y;obtain⟨rfl,_⟩:=fC (aJ Y);have M:f[i]?=some e:=by simpa using h3
   have a2:e.key=gC (dv P kt) key:=(V.2.2 i e _ M G).1;have hne:dv P kt=false->key≠[]:=λha hn=>Ew hk ha (by subst hn;exact gV hl.symm)
   obtain⟨_,L,I⟩:=uB J (es':=es.set i (key,yv)) (ents':=f.modify i λe=>{e with key:=gC (dv P kt) key,val:=a.eval v}) (clk':=n) F hb U gI λc=>(V.mono c).set λe' y2 _ _=>⟨rfl,S.mono c,rfl⟩
   refine dY.skip ?_ ⟨k,RA.undf,L,I⟩;unfold execOp;rw[Q];refine xc ?_;rw[g]at D z;simp only[Instr.mapUpdate,bP,run_underlying hu,bV,O,A,D,z,C,M,eY,eF,a2,g,Et T hne]
 .cases W
theorem TT{t kt et:TypeId}{p q v:Operand}{m x y:X}{ks:List SK}(Q:o.op= .insert t p q v)(hu:P.underlying t=some (.map kt et))(hm:cX P t p=some m)(hx:cX P kt q=some x)(hy:cX P et v=some y)(hk:dU P 12 kt=some ks)
  (h:(CI.mup (dv P kt) ks m x y).sem fr s=some (d,s')):bA LL P o fr s d s':=by
 have hp:p∈o.op.operands:=by rw[Q];simp[Op.operands]
 have hq:q∈o.op.operands:=by rw[Q];simp[Op.operands]
 have hv:v∈o.op.operands:=by rw[Q];simp[Op.operands]
 obtain⟨key,N,Z⟩:=aT (show(((x.ev fr).bind (AV.keyK (dv P kt) ks)).bind λkey=>(y.ev fr).bind λu=>(m.ev fr).bind λp=>pq (dv P kt) ks s key u p)=some (d,s')from h);obtain⟨kv,a4,H⟩:=aT N;obtain⟨yv,a6,a0⟩:=aT Z;obtain⟨mv,a5,W⟩:=aT a0;intro B k a w l J;obtain⟨K,hl⟩:=(bU l hq hx a4).keyK_eq (P:=P) (t:=kt) H rfl
 have hr:=bU l hp hm a5;have S:=bU l hv hy a6;have D: ∀em,(Instr.checkKey em 10000 kt (a.eval q)).run P w= .ok () w:=λem=>by rw[K];exact ug 12 10000 kt ks a8 hk key hl
 unfold pq at W;split at W
 .rename_i id;obtain⟨es,a3,a1⟩:=aT W;obtain⟨r,R,L⟩:=bK a1;obtain⟨rfl,rfl⟩:=fC L;have F:=yN a3;obtain⟨b,hb,O⟩:=hr.mp_inv;obtain⟨b',f,n,g1,U,V,gI⟩:=J.map F;rw[hb]at g1;cases g1;obtain⟨fq,z,E⟩:=yr hk V.ents R;rw[<-K]at z;have A:(getObj b).run P w= .ok (.map f n) w:=by simp[getObj,Sem.run,U]
  have C: ∀ob,(setObj b ob).run P w= .ok () (w.putObj b ob):=λob=>by simp[setObj,Sem.run,U,World.putObj]
  have g:a.eval q=gC (dv P kt) key:=by rw[K,yH]
  match r,fq,E with
  |none,none,_=>
   obtain⟨_,L,I⟩:=uB J (es':=es++[(key,yv)]) (ents':=f.push {key:=gC (dv P kt) key,val:=a.eval v,born:=n}) (clk':=n+1) F hb U gI λc=>(V.mono c).push (S.mono c);refine dY.skip ?_ ⟨k,RA.undf,L,I⟩;unfold execOp;rw[Q];refine xc ?_;simp only[Instr.mapUpdate,bP,run_underlying hu,bV,O,A,D,z,C];rw[g]
  |some (i,y'),some (j,v'),E=>
   obtain⟨rfl,_,h2,e,qk,h3,Y,h5⟩:=E;obtain⟨_,G,T⟩:=Bk es 0 i y' R;simp only[pI]at h3 Y G;rw[G]at Y;obtain⟨rfl,_⟩:=fC (aJ Y);have M:f[i]?=some e:=by simpa using h3
   have a2:e.key=gC (dv P kt) key:=(V.2.2 i e _ M G).1;have hne:dv P kt=false->key≠[]:=λha hn=>Ew hk ha (by subst hn;exact gV hl.symm)
   obtain⟨_,L,I⟩:=uB J (es':=es.set i (key,yv)) (ents':=f.modify i λe=>{e with key:=gC (dv P kt) key,val:=a.eval v}) (clk':=n) F hb U gI λc=>(V.mono c).set λe' y2 _ _=>⟨rfl,S.mono c,rfl⟩
   refine dY.skip ?_ ⟨k,RA.undf,L,I⟩;unfold execOp;rw[Q];refine xc ?_;rw[g]at D z;simp only[Instr.mapUpdate,bP,run_underlying hu,bV,O,A,D,z,C,M,eY,eF,a2,g,Et T hne]
 .cases W
theorem TX{t kt et:TypeId}{p q:Operand}{m x:X}{ks:List SK}{z:AV}(ho:o.op= .mapEntry t p q)(hu:P.underlying t=some (.map kt et))(hm:cX P t p=some m)(hx:cX P kt q=some x)(hk:dU P 12 kt=some ks)(hz:xr P et=some z)
  (h:(CI.men (dv P kt) ks z m x).sem fr s=some (d,s')):bA LL P o fr s d s':=by
 have hp:p∈o.op.operands:=by rw[ho];simp[Op.operands]
 have hq:q∈o.op.operands:=by rw[ho];simp[Op.operands]
 obtain⟨key,W,a4⟩:=aT (show(((x.ev fr).bind (AV.keyK (dv P kt) ks)).bind λkey=>(m.ev fr).bind λp=>uU (dv P kt) ks s key z p)=some (d,s')from h);obtain⟨kv,a7,N⟩:=aT W;obtain⟨mv,a9,hd⟩:=aT a4;intro B k a w F Q;obtain⟨R,hl⟩:=(bU F hq hx a7).keyK_eq (P:=P) (t:=kt) N rfl;obtain⟨zv,b0,a2⟩:=O7 hz k w
 have hr:=bU F hp hm a9;have I: ∀em,(Instr.checkKey em 10000 kt (a.eval q)).run P w= .ok () w:=λem=>by rw[R];exact ug 12 10000 kt ks a8 hk key hl
 have a3: ∀(k':aP) (w':World) (u:Value) (y:AV) (n:Nat),RA k' w' u y->RA k' w' (.tuple #[u,goInt n]) (.tup [y,wB n]):=λk' w' u y n hu=>by
  refine .tup (us:=[u,goInt n]) rfl λi u' c C hc=> ?_
  match i with
  |0=>simp at C hc;subst C;subst hc;exact hu
  |1=>simp at C hc;subst C;subst hc;exact .d (RD.sc _)
  |i+2=>simp at C
 unfold uU at hd;split at hd
 .rename_i id;obtain⟨es,a6,a5⟩:=aT hd;obtain⟨r,a0,S⟩:=bK a5;have L:=yN a6;obtain⟨b,hb,Z⟩:=hr.mp_inv;obtain⟨b',g,l,g1,g2,T,gI⟩:=Q.map L;rw[hb]at g1;cases g1;obtain⟨fq,D,K⟩:=yr hk T.ents a0;rw[<-R]at D;have E:(getObj b).run P w= .ok (.map g l) w:=by simp[getObj,Sem.run,g2]
  have G: ∀ob,(setObj b ob).run P w= .ok () (w.putObj b ob):=λob=>by simp[setObj,Sem.run,g2,World.putObj]
  have A:a.eval q=gC (dv P kt) key:=by rw[R,yH]
  match r,fq,K with
  |none,none,_=>
   obtain⟨rfl,rfl⟩:=fC S;obtain⟨Y,S,O⟩:=uB Q (es':=es++[(key,z)]) (ents':=g.push {key:=gC (dv P kt) key,val:=zv,born:=l}) (clk':=l+1) L hb g2 gI λf=>(T.mono f).push (a2 _ _);refine dY.value (v:= .tuple #[zv,goInt l]) ?_ ⟨k,by rw[<-T.2.1];exact a3 _ _ _ _ _ (a2 _ _),S,O⟩;unfold execOp;rw[ho];refine fh ?_
   simp only[Instr.mapEntry,bP,run_underlying hu,bV,Z,E,I,D,b0,G,cJ];rw[A]
  |some (i,y'),some (j,v'),K=>
   obtain⟨rfl,rfl⟩:=fC S;obtain⟨rfl,_,h2,e,qk,h3,h4,h5⟩:=K;obtain⟨_,M,a1⟩:=Bk es 0 i y' a0;simp only[pI]at h3 h4 M;rw[M]at h4;obtain⟨rfl,_⟩:=fC (aJ h4);have J:g[i]?=some e:=by simpa using h3
   obtain⟨V,_,H⟩:=T.2.2 i e _ J M;dsimp only at V;have hne:dv P kt=false->key≠[]:=λha hn=>Ew hk ha (by subst hn;exact gV hl.symm);obtain⟨Y,S,O⟩:=uB Q (es':=es.set i (key,y')) (ents':=g.modify i λe=>{e with key:=gC (dv P kt) key}) (clk':=l) L hb g2 gI λf=>(T.mono f).set λe' y2 U b1=>by
    rw[J]at U;cases U;exact⟨rfl,by dsimp only;rw[h5];exact h2.mono f,rfl⟩
   refine dY.value (v:= .tuple #[v',goInt i]) ?_ ⟨k,a3 _ _ _ _ _ (h2.mono Y),S,O⟩;unfold execOp;rw[ho];refine fh ?_;rw[A]at I D;simp only[Instr.mapEntry,bP,run_underlying hu,bV,Z,E,I,D,G,J,eY,eF,V,A,Et a1 hne,H,cJ]
 .cases hd
theorem U1{t kt et:TypeId}{p q v:Operand}{m x y:X}(M:o.op= .entryStore t p q v)(hu:P.underlying t=some (.map kt et))(hm:cX P t p=some m)(hx:cX P 0 q=some x)(hy:cX P et v=some y)
  (h:(CI.mst m x y).sem fr s=some (d,s')):bA LL P o fr s d s':=by
 have hp:p∈o.op.operands:=by rw[M];simp[Op.operands]
 have hq:q∈o.op.operands:=by rw[M];simp[Op.operands]
 have hv:v∈o.op.operands:=by rw[M];simp[Op.operands]
 obtain⟨n,hn,O⟩:=aT (show(((x.ev fr).bind AV.int?).bind λj=>(y.ev fr).bind λu=>(m.ev fr).bind λp=>uV s j u p)=some (d,s')from h);obtain⟨xv,a2,Z⟩:=aT hn;obtain⟨yv,a3,Q⟩:=aT O;obtain⟨mv,Y,L⟩:=aT Q;intro B k a w g K;have hi:=(bU g hq hx a2).sc_eq (AV.int_sc Z);have hr:=bU g hp hm Y;have a0:=bU g hv hy a3
 unfold uV at L;split at L
 .rename_i id;obtain⟨⟨ag,es⟩,T,l⟩:=aT L;split at l
  .rename_i h0;obtain⟨x0,z,R⟩:=bK l;obtain⟨rfl,rfl⟩:=fC R;have G:=Ti T;obtain⟨b,hb,W⟩:=hr.mp_inv;obtain⟨b',c,A,g1,N,C,gI⟩:=K.map G;rw[hb]at g1;cases g1;dsimp only at z⊢;have F:(getObj b).run P w= .ok (.map c A) w:=by simp[getObj,Sem.run,N]
   have J: ∀ob,(setObj b ob).run P w= .ok () (w.putObj b ob):=λob=>by simp[setObj,Sem.run,N,World.putObj]
   have I:n.toNat<c.size:=by rw[C.1];exact(aV.1 z).1
   have E:c[n.toNat]?=some c[n.toNat]:=lZ I;obtain⟨S,_,i⟩:=C.2.2 _ _ _ E z;have r:c.findIdx? (λe=>(e.born:Int)==n)=some n.toNat:=by
    rw[Array.findIdx?_eq_some_iff_getElem];refine⟨I,?_,λj hj=> ?_⟩
    .simp only[i,beq_iff_eq];omega
    .have H:j<c.size:=by omega
     have U:c[j]?=some c[j]:=lZ H;have V:j<es.length:=by rw[<-C.1];exact H
     have:=(C.2.2 j _ _ U (bQ V)).2.2;simp only[this,beq_iff_eq];omega
   obtain⟨_,R,a1⟩:=uB K (es':=es.set n.toNat (x0.1,yv)) (ents':=c.modify n.toNat λe=>{e with val:=a.eval v}) (clk':=A) G hb N gI λf=>(C.mono f).set λe' y2 D a4=>by
    rw[E]at D;cases D;exact⟨S,a0.mono f,rfl⟩
   refine dY.skip ?_ ⟨k,RA.undf,R,a1⟩;unfold execOp;rw[M];refine xc ?_;simp only[Instr.entryStore,W,bP,F,bV,hi,asInt,asIntOf,cJ,r,J]
  .cases l
 .cases L
end
end Go.Bb
