/- Lemmas. -/
import Derived.Test.YtellfinifjmloaaGreatDoorPAC
import Derived.Lib.ConvBytes
import Derived.Laws.BytesArg
set_option linter.unusedVariables false
set_option linter.unusedSimpArgs false
namespace Go.Bb
open Go Go.RowKit Go.Ab Go.Proofs.Lg
section
variable {LL:Nat→Code→CC→Prop} {P:Program} {o:Oper} {fr:Fr} {s s':List aa} {d:AV}
theorem RA.hdl_own{k:aU}{w:World}{u:Value}{v:AV}{id:Nat}(h:RA k w u v)(a:v.hdl=some id): ∃o,k.own[id]?=some o∧o≠ .hole:=by
 cases h with
 |ptr h=>cases a;exact⟨_,h,fun h=>by cases h⟩
 |vec d c=>cases a;obtain⟨u,n,b,_⟩:=c;exact⟨_,b,fun h=>by cases h⟩
 |vptr h=>cases a;obtain⟨u,n,b,_⟩:=h;exact⟨_,b,fun h=>by cases h⟩
 |win d c b=>cases a;exact⟨_,d,fun h=>by cases h⟩
 |vwn d c=>cases a;obtain⟨u,n,b,_⟩:=c;exact⟨_,b,fun h=>by cases h⟩
 |mp h=>cases a;exact⟨_,h,fun h=>by cases h⟩
 |_=>cases a
theorem RA.no_hole{B:Nat}{k:aU}{w:World}(a:St LL B k s w){u:Value}{v:AV}{id:Nat}(h:RA k w u v)(e:v.hdl=some id):id<s.length∧s[id]? ≠some .hole:=by
 obtain⟨o,b,c⟩:=h.hdl_own e;refine⟨by have:=(b9.1 b).1;rw[a.len]at this;exact this,fun d=> ?_⟩;have:=a.hole_own d;rw[b]at this;exact c (aJ this)
theorem wB{B:Nat}{k:aU}{w:World}{s2:List aa}(a:St LL B k s2 w)(ha:fw s s2){u:Value}{v:AV}{id:Nat}(h:RA k w u v)(f:v.hdl=some id){o:aa}(b:s[id]?=some o):s2[id]?=some o:=by
 obtain⟨c,d⟩:=h.no_hole a f;rcases ha id (b9.1 b).1 c with e|e
 ·exact e.trans b
 ·exact absurd e d
def ix(a:Nat→Code→CC→Prop)(P:Program)(o:Oper)(fr:Fr)(s:List aa)(d:AV)(b:List aa):Prop:=
 ∃x,b=s++x∧ ∀s2,fw s s2→gi s2 s.length x.length→bu a P o fr s2 d (fill s2 s.length x)
theorem ix.op(h:ix LL P o fr s d s'):bu LL P o fr s d s':=by
 obtain⟨x,rfl,a⟩:=h;have:=a s (fw.refl s) (gi.end' s _);rw[sw]at this;exact this
theorem JX{α:Type}{l:List α}(n:Nat):fill l n []=l:=by
 unfold fill;simp
theorem IF{B:Nat}{k:aU}{w:World}(c:St LL B k s w){n:Nat}(g:gi s n 1){a:Array Value}{cs:List AV}{t:TypeId}(hc:bO k w a.toList cs):
  ∃k',RA k' (w.alloc (.cells a t)) (.pointer (some ⟨w.heap.size,0,none⟩)) (.ptr n 0)∧Ext B k w k' (w.alloc (.cells a t))∧St LL B k' (fill s n [.cells cs]) (w.alloc (.cells a t)):=by
 have hb:Below w.heap.size w (w.alloc (.cells a t)):=(Below.refl _ _).alloc (bk _) _;have f:(w.alloc (.cells a t)).heap[w.heap.size]?=some (.cells a t (0,0)):=heap_alloc_new w _;have d:w.heap.size<(w.alloc (.cells a t)).heap.size:=(fB.1 f).1;have h: ∀b,b<w.heap.size→dG k.I w.heap.size 0 b=k.I b:=fun b hb=>gW _ _ a8
 obtain⟨i,e⟩:=c.newAt hb h g (.blk w.heap.size) (.cells cs) (fun b hb=>by cases hb;exact⟨bk _,d⟩) fun hm=>⟨t,a.toList,by simpa using f,hc.mono hm,fI ..⟩
 exact⟨_,.ptr (pe c g _),i,e⟩
theorem Vt{t:TypeId}{p:Operand}{x:X}(f:o.op= .box t p)(l:cX P t p=some x)(h:(CI.box x).sem fr s=some (d,s')):ix LL P o fr s d s':=by
 have hp:p∈o.op.operands:=by rw[f];simp[Op.operands]
 obtain⟨cs,c,g⟩:=bB h;obtain⟨rfl,rfl⟩:=eF g;obtain⟨v,j,hc⟩:=aT c;refine⟨[.cells cs],rfl,fun s2 _ i=> ?_⟩;intro B k a w b e;obtain⟨k',m,n,q⟩:=IF e i (t:=t) ((bI b hp l j).cells hc);refine dX.value ?_ ⟨k',m,n,q⟩;unfold execOp;rw[f];refine eI ?_;simp only[Instr.box,newVar,newRow,bF,bZ,run_newObj,bL]
 rfl
theorem Vn{t:TypeId}{i:TypeInfo}{z:Value}{c:AV}(m:o.op= .alloc t)(hi:P.info? t=some i)(p:i.zero=some z)(hc:cA P t z=some c)(h:(CI.box (.c c)).sem fr s=some (d,s')):ix LL P o fr s d s':=by
 obtain⟨cs,e,j⟩:=bB h;obtain⟨rfl,rfl⟩:=eF j;obtain⟨v,n,b⟩:=aT e;obtain rfl:=aJ n;refine⟨[.cells cs],rfl,fun s2 _ l=> ?_⟩;intro B k a w g f;obtain⟨k',q,r,u⟩:=IF f l (t:=t) ((zm hc k w).cells b);refine dX.value ?_ ⟨k',q,r,u⟩;unfold execOp;rw[m];refine eI ?_
 simp only[Instr.alloc,zeroValue,typeInfo,newVar,newRow,bF,bZ,run_newObj,bL,run_program,hi,p];rfl
theorem Vo{t:TypeId}{i:TypeInfo}{z:Value}{c:AV}(u:o.op= .alloc t)(hi:P.info? t=some i)(x:i.zero=some z)(hc:cA P t z=some c)(h:(CI.bxt t (.c c)).sem fr s=some (d,s')):ix LL P o fr s d s':=by
 obtain⟨cs,j,g⟩:=bB (show((some c).bind AV.cells).map (fun cs=>(AV.ptr s.length 0,s++[aa.tcells t cs]))=some (d,s')from h);obtain⟨rfl,rfl⟩:=eF g;refine⟨[.tcells t cs],rfl,fun s2 _ n=> ?_⟩;intro B k a w p f;have e:=(zm hc k w).cells j;have hb:Below w.heap.size w (w.alloc (.cells z.cells t)):=(Below.refl _ _).alloc (bk _) _
 have g:(w.alloc (.cells z.cells t)).heap[w.heap.size]?=some (.cells z.cells t (0,0)):=heap_alloc_new w _;have l:w.heap.size<(w.alloc (.cells z.cells t)).heap.size:=(fB.1 g).1;have q: ∀b,b<w.heap.size→dG k.I w.heap.size 0 b=k.I b:=fun b hb=>gW _ _ a8
 obtain⟨r,m⟩:=f.newAt hb q n (.blk w.heap.size) (.tcells t cs) (fun b hb=>by cases hb;exact⟨bk _,l⟩) fun hm=>⟨z.cells.toList,by simpa using g,e.mono hm,fI ..⟩
 refine dX.value (v:= .pointer (some ⟨w.heap.size,0,none⟩)) ?_ ⟨_,.ptr (pe f n _),r,m⟩;unfold execOp;rw[u];refine eI ?_;simp only[Instr.alloc,zeroValue,typeInfo,newVar,newRow,bF,bZ,run_newObj,bL,run_program,hi,x];rfl
theorem Dm{B:Nat}{k:aU}{w:World}{b:Nat}{cs:Array Value}(d:B≤b)(e:k.I b=0):iz k.I w k.I (w.setRow b cs)∧Below B w (w.setRow b cs):=by
 refine⟨fun a q u c hc=>⟨c,?_⟩,rfl,rfl,rfl,by simp,fun j f=>setRow_other w b j _ a8⟩;have hne:a≠b:=by rintro rfl;omega
 exact(uy (w:=w) (setRow_other w b a _ hne)).trans hc
theorem rn{k:aU}{w w':World}(h:iz k.I w k.I w'):Mono k w k w':=⟨h,fun _ o a=>⟨o,a,dJ.refl o⟩⟩
theorem ql{k:aU}{id:Nat}{o:Own}(h:k.own[id]?=some o):k.own=k.own.set id o:=by
 obtain⟨b,a⟩:=b9.1 h;rw[←a,yW]
theorem Kn{us us' a:List Value}{off n m:Nat}(h:n≤us.length)(b:off+m≤n)(hm:a.length=m):(us.take off++a++us.drop (off+m)).take n=(us.take n).take off++a++(us.take n).drop (off+m):=by
 refine iX fun r=> ?_;simp only[bj,jg,eY,fm,ck,hm]
 repeat' split
 all_goals first
  |rfl
  |omega
  |(congr 1;omega)
  |(exfalso;omega)
  |(simp_all;done)
  |(symm;apply iA;omega)
  |(apply iA;omega)
theorem W1{t:TypeId}{i:TypeInfo}{p q:Operand}{x y:X}(ho:o.op= .store t p q)(hi:P.info? t=some i)(hx:cX P 0 p=some x)(Z:cX P t q=some y)(h:(CI.st i.size x (Fe y)).sem fr s=some (d,s')):bu LL P o fr s d s':=by
 have hp:p∈o.op.operands:=by rw[ho];simp[Op.operands]
 have hq:q∈o.op.operands:=by rw[ho];simp[Op.operands]
 obtain⟨pv,a5,h1⟩:=aT (show((x.ev fr).bind fun p=>(((Fe y).ev fr).bind AV.cells).bind fun vs=>oB s i.size vs p)=some (d,s')from h);obtain⟨vs,a6,V⟩:=aT h1;obtain⟨yv,a0,a2⟩:=aT a6;intro B k a w m v;have hr:=bI m hp hx a5;have a7:RA k w (a.eval q) yv:=by
  cases y with
  |t n=>exact bI m hq Z a0
  |c c=>obtain rfl:=aJ a0;exact(bI m hq Z (c:=c) rfl).datA
 have hcells:=a7.cells a2;have R: ∀(b off:Nat) (cur:Array Value) (ty:TypeId),a.eval p= .pointer (some ⟨b,off,none⟩)→w.heap[b]?=some (.cells cur ty (0,0))→vs.length=i.size→off+i.size≤cur.size→
   (execOp a.eval o).run P w= .ok .skip (w.setRow b (cur.toList.take off++(a.eval q).cells.toList++cur.toList.drop (off+i.size)).toArray):=fun b off cur ty z U hm l=>by
  have j:(a.eval q).cells.toList.length=i.size:=by rw[hcells.1,hm]
  have N:(a.eval q).cells.size=i.size:=by simpa using j
  have Y:=run_storeCells_at P b off ty (a.eval q).cells.toList 0 cur w U a8 hcells.2.1;unfold execOp;rw[ho];refine vM ?_;have hne: ¬((a.eval q).cells.size≠i.size):=fun hh=>hh N;simp only[Instr.storeAt,z,Instr.sureAddr,storeVar,sizeOf,typeInfo,bF,bZ,bL,run_program,hi,if_neg hne];rw[Y];simp[j]
 unfold oB at V;split at V
 ·rename_i id off;obtain⟨cs,J,A⟩:=aT V;have D:=sq J;unfold putCells at A;split at A
  ·rename_i I;obtain⟨hm,l⟩:=I;obtain⟨rfl,rfl⟩:=eF (aJ A);obtain⟨b,hb,z⟩:=hr.ptr_inv;obtain⟨b',t',us,S,U,O,gI⟩:=v.cells D;rw[hb]at S;cases S;have hl:=O.1;have r:=R b off us.toArray t' z U hm (by simp;omega);have G:=v.lies id _ b hb rfl
   obtain⟨hk,H⟩:=Dm (k:=k) (w:=w) (cs:=(us.toArray.toList.take off++(a.eval q).cells.toList++us.toArray.toList.drop (off+i.size)).toArray) G.1 gI;obtain⟨he,M⟩:=v.upd (k':=k) hb (.cells (cs.take off++vs++cs.drop (off+i.size))) (ql hb) (dJ.refl _) hk H (fun Q C=>by cases C;exact⟨.inl rfl,by rw[setRow_size];exact G.2,G.1⟩)
    (fun Q L hne=>⟨setRow_other w b Q _ (fun e=>hne (by rw[e];rfl)),rfl⟩)
    ⟨t',_,setRow_heap w b _ _ t' (0,0) U,by
     have f:=rn hk;simpa using(((O.mono f).take off).append (hcells.mono f)).append ((O.mono f).drop (off+i.size)),gI⟩
   exact dX.skip r ⟨k,RA.undf,he,M⟩
  ·cases A
 ·rename_i id n off;obtain⟨⟨sz,ds⟩,J,A⟩:=aT V;obtain⟨e,D,N,j⟩:=iw J;have a3:lY s[id]?=e:=by rw[D];rfl
  unfold xR at A;split at A
  ·rename_i I;obtain⟨hm,l⟩:=I;obtain⟨rfl,rfl⟩:=eF (aJ A);dsimp only at l⊢;rw[a3];obtain⟨b,z,hb⟩:=hr.vptr_inv;obtain⟨u,xs,cap,cur,S,U,O,g4,g5,g6,g7,g8,g9,F,T,a9⟩:=yF v D N j hb;have b0:n*sz≤cap*sz:=iP _ g6;have r:=R b off cur e z g5 hm a8;have K:(a.eval q).cells.toList.length=i.size:=by rw[hcells.1,hm]
   obtain⟨hk,H⟩:=Dm (k:=k) (w:=w) (cs:=(cur.toList.take off++(a.eval q).cells.toList++cur.toList.drop (off+i.size)).toArray) g4 T;have E:u.ownBlock=some b:=by rw[O];rfl
   have L:b<w.heap.size:=(fB.1 g5).1;have a1:cur.toList.length=cap*sz:=by simpa using g8
   have W:(cur.toList.take off++(a.eval q).cells.toList++cur.toList.drop (off+i.size)).take (n*sz)=xs.take off++(a.eval q).cells.toList++xs.drop (off+i.size):=by
    rw[Kn (us':=[]) a8 a8 K,g9]
   have a4:(xs.take off++(a.eval q).cells.toList++xs.drop (off+i.size)).length=n*sz:=by
    have:=F.1;simp only[aR,ck,aA,K];omega
   obtain⟨he,M⟩:=v.upd (k':=k) S (.vec e sz (ds.take off++vs++ds.drop (off+i.size))) (ql S) (dJ.refl _) hk H (fun Q C=>by rw[show(Own.row u n).block=some b from E]at C;cases C;exact⟨.inl E,by rw[setRow_size];exact L,g4⟩)
    (fun Q L hne=>⟨setRow_other w b Q _ (fun e=>hne (by rw[e];exact E)),rfl⟩)
    ⟨xs.take off++(a.eval q).cells.toList++xs.drop (off+i.size),⟨a4,.inr ⟨b,cap,_,O,g4,setRow_heap w b _ _ e (0,0) g5,g6,g7,by simp only[kU,aR,ck,aA,K,a1];omega,W⟩⟩,
     (fun g hg=>by rw[E]at hg;cases hg;exact T),by simp only[aR,ck,aA,hm];omega,by
     have f:=rn hk;simpa[bj]using(((F.mono f).take off).append (hcells.mono f)).append ((F.mono f).drop (off+i.size))⟩
   exact dX.skip r ⟨k,RA.undf,he,M⟩
  ·cases A
 ·cases V
theorem Pk{B:Nat}{k:aU}{w:World}(p:St LL B k s w){id e sz n:Nat}{ds:List AV}(x:s[id]?=some (.vec e sz ds))(A:0<sz)(l:ds.length=n*sz){b:Nat}(hb: ∃u C,k.own[id]?=some (.row u C)∧n≤C∧(n=C→u.ownBlock=some b))
  {a:List Value} {vs:List AV} (o:bO k w a vs) {off:Nat} (H:off+a.length≤n*sz):
  ∃cur,w.heap[b]?=some (.cells cur e (0,0))∧n*sz≤cur.size∧Ext B k w k (w.setRow b (cur.toList.take off++a++cur.toList.drop (off+a.length)).toArray)∧
   St LL B k (s.set id (.vec e sz (ds.take off++vs++ds.drop (off+a.length)))) (w.setRow b (cur.toList.take off++a++cur.toList.drop (off+a.length)).toArray):=by
 obtain⟨u,xs,cap,cur,E,O,F,q,r,G,J,K,L,d,h,I⟩:=yF p x A l hb;have N:n*sz≤cap*sz:=iP _ G;obtain⟨hk,t⟩:=Dm (k:=k) (w:=w) (cs:=(cur.toList.take off++a++cur.toList.drop (off+a.length)).toArray) q h;have c:u.ownBlock=some b:=by rw[F];rfl
 have m:b<w.heap.size:=(fB.1 r).1;have v:cur.toList.length=cap*sz:=by simpa using K
 have j:(cur.toList.take off++a++cur.toList.drop (off+a.length)).take (n*sz)=xs.take off++a++xs.drop (off+a.length):=by
  rw[Kn (us':=[]) a8 a8 rfl,L]
 have y:(xs.take off++a++xs.drop (off+a.length)).length=n*sz:=by
  have:=d.1;simp only[aR,ck,aA];omega
 obtain⟨M,z⟩:=p.upd (k':=k) E (.vec e sz (ds.take off++vs++ds.drop (off+a.length))) (ql E) (dJ.refl _) hk t (fun D i=>by rw[show(Own.row u n).block=some b from c]at i;cases i;exact⟨.inl c,by rw[setRow_size];exact m,q⟩)
  (fun D m hne=>⟨setRow_other w b D _ (fun e=>hne (by rw[e];exact c)),rfl⟩)
  ⟨xs.take off++a++xs.drop (off+a.length),⟨y,.inr ⟨b,cap,_,F,q,setRow_heap w b _ _ e (0,0) r,G,J,by simp only[kU,aR,ck,aA,v];omega,j⟩⟩,
   (fun g hg=>by rw[c]at hg;cases hg;exact h),by have:=o.1;simp only[aR,ck,aA];omega,by
   have f:=rn hk;simpa[bj]using(((d.mono f).take off).append (o.mono f)).append ((d.mono f).drop (off+a.length))⟩
 exact⟨cur,r,by omega,M,z⟩
theorem a4L(z:Array Value): ∀n,(Builtin.zeroCells z n).toList=(List.replicate n z.toList).flatten:=by
 have a: ∀(n i:Nat),i<n*z.size→(List.replicate n z.toList).flatten[i]?=z.toList[i % z.size]? :=fun n=>by
  induction n with
  |zero=>intro i hi;omega
  |succ n d=>
   intro i hi;rw[sa,fL,jg];by_cases h:i<z.toList.length
   ·rw[if_pos h,Nat.mod_eq_of_lt (by simpa using h)]
   ·rw[if_neg h];have b:z.size≤i:=by simpa using h
    have:=d (i-z.size) (by rw[fe]at hi;omega);rw[gz,this,Nat.mod_eq_sub_mod b]
 intro n;refine iX fun i=> ?_;by_cases hi:i<n*z.size
 ·rw[a n i hi];have c:0<z.size:=by
   rcases uo z.size with e|e
   ·rw[e]at hi;omega
   ·exact e
  have hm:=Nat.mod_lt i c;simp[Builtin.zeroCells,hi,hm]
 ·rw[iA (by simp[Builtin.zeroCells];omega),iA (by simp;omega)]
theorem SM{α:Type}(l:List α)(n:Nat):(List.replicate n l).flatten.length=n*l.length:=by
 simp[List.length_flatten]
theorem bO.rep{k:aU}{w:World}{us:List Value}{ds:List AV}(h:bO k w us ds): ∀n,bO k w (List.replicate n us).flatten (List.replicate n ds).flatten
 |0=>⟨rfl,by simp,by simp⟩
 |n+1=>by
  rw[sa,sa,fL,fL];exact h.append (h.rep n)
theorem Vw{t e:TypeId}{i:TypeInfo}{z:Value}{p:Operand}{x:X}(ho:o.op= .call {callee:= .builtin .clear,args:= #[p],argTypes:= #[t]})(hu:P.underlying t=some (.slice e))(hi:P.info? e=some i)(hz:i.zero=some z)(h1:z.cells.all (·.oneCell')=true)(R:z.cells.size=i.size)
  (hx:cX P t p=some x) (h:(CI.clr i.size (nC P e z.cells.toList) x).sem fr s=some (d,s')):bu LL P o fr s d s':=by
 have hp:p∈o.op.operands:=by rw[ho];simp[Op.operands,Call.operands]
 obtain⟨xv,Q,E⟩:=aT (show(x.ev fr).bind (vO s i.size (nC P e z.cells.toList))=some (d,s')from h);intro B k a w r A;have hr:=bI r hp hx Q;unfold vO at E;split at E
 ·rename_i id N off n a1;obtain⟨⟨sz,ds⟩,H,F⟩:=aT E;obtain⟨T,l,C,f⟩:=iw H;have I:lY s[id]?=T:=by rw[l];rfl
  dsimp only at F;split at F
  ·rename_i G;obtain⟨⟨rfl,rfl,c1⟩,c2,c3⟩:=G;obtain⟨rfl,rfl⟩:=eF (aJ F);rw[I];obtain⟨_,u,n',hk,a0,J⟩:=hr.vwn_inv;obtain⟨u2,n2,xs,U,g2,g3,V,g5⟩:=A.vec l;rw[hk]at U;cases U;have K:N=n':=by
    rw[f]at V;exact kX C V
   subst K;obtain⟨b,c,L,O,_,_⟩:=J rfl;have M:u.ownBlock=some b:=by rw[L];rfl
   have q: ∀v∈z.cells.toList,v.oneCell'=true:=fun v hv=>rX.1 h1 v (by simpa using hv);have g:bO k w (List.replicate n z.cells.toList).flatten (List.replicate n (nC P e z.cells.toList)).flatten:=(EB (P:=P) (t:=e) q k w).rep n;have D:(List.replicate n z.cells.toList).flatten.length=n*i.size:=by rw[SM,gz,R]
   have Z:off*i.size+n*i.size≤N*i.size:=by rw[←fe];exact iP _ c3
   obtain⟨cur,hh,W,Y,y⟩:=Pk A l C f ⟨u,N,hk,bk _,fun _=>M⟩ g (off:=off*i.size) a8;rw[D]at Y y;have j:=run_storeCells_at P b (off*i.size) T (List.replicate n z.cells.toList).flatten 0 cur w hh a8 g.2.1;rw[aE,D]at j;refine dX.value ?_ ⟨k,.d (.sc _),Y,y⟩;unfold execOp;rw[ho];obtain⟨m,rfl⟩: ∃m,n=m+1:=⟨n-1,by omega⟩
   have S:(zeroValue e).run P w= .ok z w:=by simp[zeroValue,typeInfo,hi,hz]
   simp only[resolve,invoke,builtin,bF,bZ,bL,s9,bV,e8,O];simp[Builtin.clear_,run_underlying hu,S,a4L,j]
  ·cases F
 ·cases E
theorem Hj(P:Program)(g o:Nat)(t:TypeId)(fz:Nat×Nat): ∀(vs:List Value) (i:Nat) (cur:Array Value) (w:World),w.heap[g]?=some (.cells cur t fz)→(fz.2≤o+i∨cur.size≤fz.1)→o+i+vs.length≤cur.size→(∀v∈vs,v.oneCell'=true)→
  (storeCells ⟨g,o,none⟩ vs i).run P w= .ok () (w.setRow g (cur.toList.take (o+i)++vs++cur.toList.drop (o+i+vs.length)).toArray)
 |[],i,cur,w,hg,_,_,_=>by
  simp only[storeCells,bg,b6,aE,ji,Array.toArray_toList];rw[setRow_self w g cur t fz hg];rfl
 |v::rest,i,cur,w,hg,hfz,hl,h1=>by
  have hi:o+i<cur.size:=by simp at hl;omega
  have b:(⟨g,o,none⟩:Addr).add i=⟨g,o+i,none⟩:=by unfold Addr.add;split<;>simp_all
  have a:w.cell? ⟨g,o+i,none⟩=some cur[o+i]:=by simp[World.cell?,hg,hi]
  have c:w.frozen? ⟨g,o+i,none⟩=false:=by
   obtain⟨lo,f⟩:=fz;simp only[World.frozen?,hg,Bool.and_eq_false_iff,decide_eq_false_iff_not];simp only at hfz;rcases hfz with hfz|hfz
   ·right;omega
   ·left;omega
  have d:(store ((⟨g,o,none⟩:Addr).add i) v).run P w= .ok () (w.setRow g (cur.setIfInBounds (o+i) v)):=by
   rw[b,run_store P w _ v _ (h1 v (by simp)),a];simp[c,setCell_eq_setRow w g (o+i) cur t fz v hg]
  have j:=Hj P g o t fz rest (i+1) (cur.setIfInBounds (o+i) v) (w.setRow g (cur.setIfInBounds (o+i) v)) (setRow_heap w g cur _ t _ hg) (by simp;omega) (by simp at hl⊢;omega) (fun x h=>h1 x (by simp[h]));simp only[storeCells,bF,d,bL,j,setRow_setRow];congr 3;have e:=list_seg_step cur.toList (o+i) v rest (by simp at hl⊢;omega)
  simpa[Array.toList_setIfInBounds,kW]using e
theorem a2Q(w:World)(t s e:TypeId)(i:TypeInfo)(r:P.underlying t=some (.slice e))(hi:P.info? e=some i)
  (g b d:Nat) (cur:Array Value) (fz:Nat×Nat) (hg:w.heap[g]?=some (.cells cur e fz)) (n:fz.2≤b*i.size∨cur.size≤fz.1)
  (a:Addr) (m c:Nat) (news:List Value) (q:news.length=m*i.size) (f: ∀j u,news[j]?=some u→w.cell? (a.add j)=some u) (o: ∀u∈news,u.oneCell'=true)
  (h:b+m≤d) (k:b*i.size+news.length≤cur.size):
  (Builtin.append_ #[t,t] s #[.slice (some ⟨g,0,none⟩) b d,.slice (some a) m c]).run P w=
   .ok (.slice (some ⟨g,0,none⟩) (b+m) d) (w.setRow g (cur.toList.take (b*i.size)++news++cur.toList.drop (b*i.size+news.length)).toArray):=by
 have p:=run_firstCells_some (P:=P) w i.size m a m c news q f;have l:=Hj P g (b*i.size) e fz news 0 cur w hg (by simpa using n) (by simpa using k) o;simp only[aE]at l;simp[Builtin.append_,run_underlying r,sizeOf,typeInfo,hi,Builtin.lenOf,h,p,Addr.add_lit,l]
theorem Eb(w:World)(base:Nat)(t K e:TypeId)(i:TypeInfo)(z:Value)(A:P.underlying t=some (.slice e))(hi:P.info? e=some i)(O:i.zero=some z)(N:z.cells.size=i.size)
  (v:Value) (n:Nat) (xs:List Value) (a:dO w base e i.size v n xs) (x:Value) (m:Nat) (news:List Value) (J:oP w x m i.size news) (R: ∀u∈news,u.oneCell'=true)
  (L:n+m≤9223372036854775807) (hbytes:(n+m)*i.bytes≤140737488355328) (d:base≤w.heap.size):
  ∃D w',(Builtin.append_ #[t,t] K #[v,x]).run P w= .ok D w'∧((m=0∧D=v∧w'=w)∨
   (0<m∧(dO w' base e i.size D (n+m) (xs++news)∧(w.ownsRow base e i.size v n xs→w'.ownsRow base e i.size D (n+m) (xs++news)))∧Below base w w'∧((∃g,D.ownBlock=some g∧v.ownBlock=some g∧w.grownBy w' (some g))∨(D.ownBlock=some w.heap.size∧w.heap.size<w'.heap.size∧w.grownBy w' none)))):=by
 obtain⟨a0,C,rfl⟩:=vt a;have o:=MU a;by_cases hm:m=0
 ·subst hm;refine⟨_,w,?_,.inl ⟨rfl,rfl,rfl⟩⟩;obtain⟨r,⟨c,rfl,_⟩|⟨I,c,rfl,hc⟩⟩:=J
  ·cases a0 with
   |none=>simp[Builtin.append_,run_underlying A,sizeOf,typeInfo,hi,Builtin.lenOf,Builtin.firstCells,o]
   |some a0=>simp[Builtin.append_,run_underlying A,sizeOf,typeInfo,hi,Builtin.lenOf,Builtin.firstCells,o,storeCells]
  ·cases a0 with
   |none=>simp[Builtin.append_,run_underlying A,sizeOf,typeInfo,hi,Builtin.lenOf,Builtin.firstCells,o,loadCells,loadCellsFrom]
   |some a0=>simp[Builtin.append_,run_underlying A,sizeOf,typeInfo,hi,Builtin.lenOf,Builtin.firstCells,o,storeCells,loadCells,loadCellsFrom]
 ·obtain⟨r,⟨c,_,Q⟩|⟨I,c,rfl,hc⟩⟩:=J
  ·exact absurd Q hm
  have h:(xs++news).length=(n+m)*i.size:=by rw[aR,a.1,r,fe]
  have p: ∀(l:Nat),l<n+m→
    (w.drew.alloc (.cells (xs.toArray++news.toArray++Builtin.zeroCells z.cells (grownCap w (n+m) l e-(n+m))) e)).ownsRow base e i.size
     (.slice (some ⟨w.heap.size,0,none⟩) (n+m) (grownCap w (n+m) l e)) (n+m) (xs++news)∧
    w.grownBy (w.drew.alloc (.cells (xs.toArray++news.toArray++Builtin.zeroCells z.cells (grownCap w (n+m) l e-(n+m))) e)) none:=by
   intro l T;have M:=grownCap_ge w (n+m) l e;have q:grownCap w (n+m) l e≤maxLen:=grownCap_le_maxLen w (n+m) l e (by unfold maxLen;exact L);refine⟨⟨h,.inr ⟨w.heap.size,_,_,rfl,d,heap_alloc_new w.drew _,M,q,?_,?_⟩⟩,⟨rfl,rfl,rfl,by simp,fun k hk _=>Below.heap_alloc w.drew _ k (by simpa using hk)⟩⟩
   ·simp only[Array.size_append,kU,size_zeroCells,N,a.1,r,←fe];congr 1;omega
   ·simp only[pO,bj];rw[←bj,←h];exact List.take_left
  rcases a.2 with⟨B,rfl⟩|⟨g,cap,cur,fz,B,hbg,hg,hnc,q,hcs,htake,hfz⟩
  ·cases B;have J:xs=[]:=fK (by simpa using a.1);subst J;have G:=run_append_nil (P:=P) w t K e i z A hi O I m c news r hc a8 a8 (by have hb:=hbytes;simp only[aw]at hb;omega);have b:=p 0 a8;simp only[aw,bm,Array.empty_append]at b⊢
   exact⟨_,_,G,.inr ⟨by omega,⟨dO.of b.1,fun _=>b.1⟩,(Below.refl _ _).grown b.2 d (by simp),.inr ⟨rfl,by simp,b.2⟩⟩⟩
  ·cases B;by_cases f:n+m≤C
   ·have E:n*i.size+news.length≤cur.size:=by rw[r,hcs,←fe];exact iP _ f
    have G:=a2Q (P:=P) w t K e i A hi g n C cur fz hg hfz I m c news r hc R f E;have F:w.grownBy (w.setRow g (cur.toList.take (n*i.size)++news++cur.toList.drop (n*i.size+news.length)).toArray) (some g):=⟨rfl,rfl,rfl,by simp,fun k _ hk=>setRow_other w g k _ (fun e=>hk (by simp[e]))⟩
    have y:(cur.toList.take (n*i.size)++news++cur.toList.drop (n*i.size+news.length)).toArray.size=cur.size:=by
     simp only[kU,aR,ck,aA,gz];omega
    have H:(cur.toList.take (n*i.size)++news++cur.toList.drop (n*i.size+news.length)).toArray.toList.take ((n+m)*i.size)=xs++news:=by
     rw[htake,←h];exact List.take_left
    refine⟨_,_,G,.inr ⟨by omega,⟨⟨h,.inr ⟨g,C,_,fz,rfl,hbg,setRow_heap w g cur _ e _ hg,f,q,y.trans hcs,H,?_⟩⟩,fun S=>⟨h,.inr ⟨g,C,_,rfl,hbg,setRow_heap w g cur _ e _ ?_,f,q,y.trans hcs,H⟩⟩⟩,(Below.refl _ _).grown F d (by simp;exact hbg),.inl ⟨g,rfl,rfl,F⟩⟩⟩
    ·rw[y];rcases hfz with hfz|hfz
     ·exact .inl (ef hfz (iP _ (Nat.le_add_right n m)))
     ·exact .inr hfz
    ·rcases S.2 with⟨B,_⟩|⟨g',cap',cur',B,_,hg',_⟩
     ·cases B
     ·cases B;rw[hg]at hg';have:=aJ hg';injection this with e1 _ e3
      rw[hg,e3]
   ·have s: ∀j u,xs[j]?=some u→w.cell? ((⟨g,0,none⟩:Addr).add j)=some u:=a.cells (g:=g) rfl;have G:=run_append_grow (P:=P) w t K e i z A hi O ⟨g,0,none⟩ n C xs a.1 s I m c news r hc a8 a8 (growslice_fits a8 hbytes);have b:=p C a8
    exact⟨_,_,G,.inr ⟨by omega,⟨dO.of b.1,fun _=>b.1⟩,(Below.refl _ _).grown b.2 d (by simp),.inr ⟨rfl,by simp,b.2⟩⟩⟩
theorem yj{I:Nat→Nat}{w:World}{B e sz:Nat}{v:Value}{rows:List (List D)}{xs:List Value}(h:RD I w v (.sl sz rows))(j:dO w B e sz v rows.length xs):db I w xs rows.flatten:=by
 obtain⟨a,c,us,rfl,m,t,u,f,n⟩:=h.sl_inv;have d:=flatten_len rows m;have:xs=us:=by
  have p:us.length=rows.length*sz:=by rw[f.1,d]
  have q:xs.length=rows.length*sz:=j.1;refine iX fun i=> ?_;by_cases hi:i<rows.length*sz
  ·have k:us[i]?=some us[i]:=bN a8;rw[k];rcases j.2 with⟨l,r⟩|⟨g,cap,cur,fz,l,hbg,hg,hnc,hcm,hcs,htake,hfz⟩
   ·rw[r]at hi;simp at hi
   ·cases l;obtain⟨b,off,hb,hc⟩:=n (by intro s;rw[s]at hi;simp at hi);cases hb;have:=(hc i _ k).2;rw[aw,cell_of_row w g i cur e fz hg]at this;have o:xs[i]?=(List.take (rows.length*sz) cur.toList)[i]? :=by rw[htake]
    rw[o,eY,if_pos hi];simpa using this
  ·rw[iA a8,iA a8]
 rw[this];exact f
theorem tR{I:Nat→Nat}{w:World}{B e sz n:Nat}{v:Value}{rows:List (List D)}{xs:List Value}(c:dO w B e sz v n xs)(j:db I w xs rows.flatten)(f:rows.length=n)(h: ∀r∈rows,r.length=sz)
  (d: ∀g,v.ownBlock=some g→n*sz≤I g):RD I w v (.sl sz rows):=by
 rcases c.2 with⟨b,k⟩|⟨g,cap,cur,fz,b,hbg,hg,hnc,hcm,hcs,htake,hfz⟩
 ·subst b;obtain rfl:rows=[]:=fK a8;exact RD.sl_mk (us:=[]) (by simp) (by simp) a8 a8 ⟨by simp,by simp,by simp⟩ (by simp)
 ·subst b;refine RD.sl_mk f h hnc (by unfold maxLen at hcm;omega) j fun _=>⟨g,0,rfl,fun i u a=> ?_⟩
  have hi:=(b9.1 a).1;have l:=c.1;refine⟨by have:=d g rfl;omega,?_⟩;rw[aw,cell_of_row w g i cur e fz hg];rw[←htake,eY]at a;split at a
  ·simpa using a
  ·cases a
theorem yk{I:Nat→Nat}{w:World}{v:Value}{sz:Nat}{rows:List (List D)}(h:RD I w v (.sl sz rows)): ∀r∈rows,r.length=sz:=by
 obtain⟨a,c,us,_,b,_⟩:=h.sl_inv;exact b
theorem zb{I:Nat→Nat}{w:World}{v:Value}{sz:Nat}{rows:List (List D)}(h:RD I w v (.sl sz rows)): ∃us,oP w v rows.length sz us∧db I w us rows.flatten:=by
 obtain⟨a,c,us,rfl,k,l,m,d,f⟩:=h.sl_inv;refine⟨us,⟨by rw[d.1,flatten_len rows k],?_⟩,d⟩;cases a with
 |none=>
  left;have:rows=[]:=by
   cases rows with
   |nil=>rfl
   |cons r rows=>obtain⟨b,off,hb,_⟩:=f (by simp);cases hb
  subst this;exact⟨c,rfl,rfl⟩
 |some i=>
  right;refine⟨i,c,rfl,fun j u g=> ?_⟩;obtain⟨b,off,hb,hc⟩:=f (by intro e;subst e;have:=d.1;simp at this;subst this;simp at g);obtain rfl:=aJ hb;rw[fi];exact(hc j u g).2
theorem St.grow{B:Nat}{k:aU}{w w':World}(h:St LL B k s w){id n m x0 x:Nat}{v f:Value}{a:Nat}{ob:aa}(hk:k.own[id]?=some (.row v n))(F: ∀g,v.ownBlock=some g→k.I g=x0)(hm:0<m)(M:x0≤x)
  (hb:Below B w w') (A:f.ownBlock=some a) (c:v.ownBlock=some a∨(a=w.heap.size∧w.heap.size<w'.heap.size)) (i: ∀b,b<w.heap.size→b≠a→w'.heap[b]?=w.heap[b]?)
  (y:v.ownBlock=some a→ ∀q u,q<x0→w.cell? ⟨a,q,none⟩=some u→w'.cell? ⟨a,q,none⟩=some u)
  (E:Mono k w ⟨dG k.I a x,k.own.set id (.row f (n+m))⟩ w'→lT LL B ⟨dG k.I a x,k.own.set id (.row f (n+m))⟩ w' ob (.row f (n+m))):
  Ext B k w ⟨dG k.I a x,k.own.set id (.row f (n+m))⟩ w'∧St LL B ⟨dG k.I a x,k.own.set id (.row f (n+m))⟩ (s.set id ob) w':=by
 have C:=(b9.1 hk).1;have d:iz k.I w (dG k.I a x) w':=fun b q u G hc=>by
  have l:=J6 hc;by_cases e:b=a
  ·subst e;rcases c with hc1|⟨hc1,_⟩
   ·have L:=F b hc1;exact⟨by rw[fI];omega,y hc1 q u a8 hc⟩
   ·omega
  ·exact⟨by rw[gW _ _ e];exact G,(uy (w:=w) (i b l e)).trans hc⟩
 have t:dJ (.row v n) (.row f (n+m)):=⟨f,n+m,rfl,.inr a8⟩
 have o:Mono k w ⟨dG k.I a x,k.own.set id (.row f (n+m))⟩ w':=⟨d,fun j K D=>by
  show∃o',(k.own.set id (.row f (n+m)))[j]?=some o'∧_;rw[eP];by_cases e:id=j
  ·subst e;rw[hk]at D;cases D;exact⟨_,by simp[C],t⟩
  ·exact⟨K,by simp[e,D],dJ.refl _⟩⟩
 have r:B≤a∧a<w'.heap.size:=by
  rcases c with hc|⟨rfl,hc⟩
  ·obtain⟨H,J⟩:=h.lies id _ a hk hc;exact⟨H,pQ J hb.size⟩
  ·exact⟨h.base,hc⟩
 refine h.upd hk ob rfl t d hb (fun b z=> ?_) (fun b l hne=> ?_) (E o)
 ·have:some b=some a:=by rw[←z];exact A
  cases this;refine⟨?_,r.2,r.1⟩;rcases c with hc|⟨rfl,_⟩
  ·exact .inl hc
  ·exact .inr (bk _)
 ·have p:b≠a:=by
   rintro rfl;rcases c with hc|⟨rfl,_⟩
   ·exact hne hc
   ·omega
  exact⟨i b l p,gW _ _ p⟩
theorem Ei{B:Nat}{k:aU}{w:World}(C:St LL B k s w){v:Value}{y:AV}(M:RA k w v y){sz:Nat}{m:Nat×List AV}(h:gQ s sz y=some m):
  ∃us,oP w v m.1 sz us∧bO k w us m.2:=by
 unfold gQ at h;split at h
 ·rename_i id n G;obtain⟨⟨l,ds⟩,o,d⟩:=aT h;obtain⟨e,t,D,p⟩:=iw o;split at d
  ·rename_i f;obtain⟨rfl,rfl⟩:=f;obtain rfl:=aJ d;obtain⟨⟨ad,cc,hv⟩,u,R,z,J,r⟩:=M.vec_inv;obtain⟨v2,Z,xs,q,a,X,H,F⟩:=C.vec t;rw[z]at q;cases q;have A:n=R:=by
    rw[p]at H;exact kX D H
   subst A;have L:=r rfl;refine⟨xs,⟨a.1,?_⟩,F⟩;rw[L];rcases a.2 with⟨d,W⟩|⟨g,cap,cur,d,_⟩
   ·exact .inl ⟨0,d,W⟩
   ·exact .inr ⟨_,cap,d,fun i x j=>a.cells (by rw[d];rfl) i x j⟩
  ·cases d
 ·rename_i id N off n G;obtain⟨⟨l,ds⟩,o,d⟩:=aT h;obtain⟨e,t,D,p⟩:=iw o;split at d
  ·rename_i f;dsimp only at f;obtain⟨rfl,rfl,J⟩:=f;obtain rfl:=aJ d;obtain⟨_,u,R,z,_,r⟩:=M.vwn_inv;obtain⟨v2,Z,xs,q,a,X,H,F⟩:=C.vec t;rw[z]at q;cases q;have A:N=R:=by
    rw[p]at H;exact kX D H
   subst A;obtain⟨b,c,O,E,_,_⟩:=r rfl;have P:u.ownBlock=some b:=by rw[O];rfl
   have I:=(F.drop (off*l)).take (n*l);have S:off*l+n*l≤N*l:=by rw[←fe];exact iP _ J
   refine⟨_,⟨by rw[I.1];simp;omega,.inr ⟨_,c,E,fun i x j=> ?_⟩⟩,I⟩;rw[eY]at j;split at j
   ·rw[fm]at j;have:=a.cells P _ x j;rw[fi,aw]at this;rw[fi];exact this
   ·cases j
  ·cases d
 ·rename_i id off n G;obtain⟨cs,o,d⟩:=aT h;split at d
  ·rename_i f;obtain⟨rfl,T⟩:=f;obtain rfl:=aJ d;obtain⟨b,c,hb,E,_,_⟩:=M.win_inv;obtain⟨b',t',us,q,U,V,gI⟩:=C.cells (sq o);rw[hb]at q;cases q;have I:=(V.drop off).take (n*G);refine⟨_,⟨by rw[I.1];simp;omega,.inr ⟨_,c,E,fun i x j=> ?_⟩⟩,I⟩;rw[eY]at j;split at j
   ·rw[fm]at j;rw[fi,uG U];exact j
   ·cases j
  ·cases d
 ·obtain⟨rows,Y,rfl⟩:=bB h;obtain⟨us,K,Q⟩:=zb (M.slA Y);exact⟨us,K,db.toA Q⟩
theorem a3x{B:Nat}{k:aU}{w:World}{s2:List aa}(c:St LL B k s2 w)(ha:fw s s2){v:Value}{y:AV}(j:RA k w v y){sz:Nat}{m:Nat×List AV}(h:gQ s sz y=some m):gQ s2 sz y=some m:=by
 unfold gQ at h⊢;split at h
 ·rename_i id n g;obtain⟨⟨l,ds⟩,a,d⟩:=aT h;obtain⟨e,b,i,f⟩:=iw a;rw[b]at a;show(gx n (s2[id]?)).bind _=_;rw[wB c ha j rfl b,a];exact d
 ·rename_i id N off n g;obtain⟨⟨l,ds⟩,a,d⟩:=aT h;obtain⟨e,b,i,f⟩:=iw a;rw[b]at a;show(gx N (s2[id]?)).bind _=_;rw[wB c ha j rfl b,a];exact d
 ·rename_i id off n g;obtain⟨cs,a,d⟩:=aT h;have b:=sq a;rw[b]at a;show(mY (s2[id]?)).bind _=_;rw[wB c ha j rfl b,a];exact d
 ·exact h
theorem He{e sz n:Nat}{o:Option aa}(h:ir e sz n o=true):o=some (.row e sz n):=by
 unfold ir at h;split at h
 ·obtain⟨rfl,rfl,rfl⟩:=of_decide_eq_true h;rfl
 ·cases h
theorem yi{n b:Nat}(h:bw n b=true):n*b≤140737488355328∧n≤9223372036854775807:=of_decide_eq_true h
theorem Ol(w:World)(B:Nat)(t s e:TypeId)(j:TypeInfo)(z:Value)(A:P.underlying t=some (.slice e))(y:P.info? e=some j)(C:j.zero=some z)(l:z.cells.size=j.size)(v:Option Addr)(x:Value)(m:Nat)(us:List Value)
  (d:oP w x m j.size us) (h1s: ∀u∈us,u.oneCell'=true) (hm:0<m) (D:m*j.bytes≤140737488355328) (r2:m≤9223372036854775807) (a:B≤w.heap.size):
  ∃n w',(Builtin.append_ #[t,t] s #[.slice v 0 0,x]).run P w= .ok n w'∧w'.ownsRow B e j.size n m us∧n.ownBlock=some w.heap.size∧w.heap.size<w'.heap.size∧w.grownBy w' none:=by
 cases v with
 |none=>
  obtain⟨n,w',p,f⟩:=Eb (P:=P) w B t s e j z A y C l _ 0 [] (dO.of (World.ownsRow_nil w B e j.size)) _ m us d h1s a8 (by simpa using D) a;rcases f with⟨F,_⟩|⟨_,⟨_,hownR⟩,hb,⟨g,_,hg,_⟩|⟨hg,hlt,hgb⟩⟩
  ·omega
  ·cases hg
  ·have b:=hownR (World.ownsRow_nil w B e j.size);rw[aw,bm]at b;exact⟨n,w',p,b,hg,hlt,hgb⟩
 |some a0=>
  obtain⟨o,⟨c,_,E⟩|⟨q,c,r,hc⟩⟩:=d
  ·omega
  ·have p:=run_append_grow (P:=P) w t s e j z A y C a0 0 0 [] (by simp) (by simp) q m c us o hc a8 a8 (growslice_fits a8 (by simpa using D));have i:=grownCap_ge w (0+m) 0 e;have h:grownCap w (0+m) 0 e≤maxLen:=grownCap_le_maxLen w (0+m) 0 e (by unfold maxLen;omega);rw[←r]at p
   refine⟨_,_,p,?_,rfl,by simp,⟨rfl,rfl,rfl,by simp,fun k hk _=>Below.heap_alloc w.drew _ k (by simpa using hk)⟩⟩;simp only[aw,bm,Array.empty_append]at i h⊢;refine⟨o,.inr ⟨w.heap.size,_,_,rfl,a,heap_alloc_new w.drew _,i,h,?_,?_⟩⟩
   ·simp only[Array.size_append,kU,size_zeroCells,l,o,b6,aw,←fe];congr 1;omega
   ·simp only[pO,bj,bm];rw[←o];exact List.take_left
theorem LY{mu:Bool}{t e:TypeId}{j:TypeInfo}{z:Value}{p q:Operand}{x y:X}(ho:o.op= .call {callee:= .builtin .append,args:= #[p,q],argTypes:= #[t,t]})(hu:P.underlying t=some (.slice e))(hj:P.info? e=some j)(hz:j.zero=some z)(a7:z.cells.size=j.size)
  (hx:cX P t p=some x) (hy:cX P t q=some y) (h:(CI.app mu e j.size j.bytes x y).sem fr s=some (d,s')) (ht:lV (x.ev fr)=3):ix LL P o fr s d s':=by
 have hp:p∈o.op.operands:=by rw[ho];simp[Op.operands,Call.operands]
 have hq:q∈o.op.operands:=by rw[ho];simp[Op.operands,Call.operands]
 have S: ∀(a:Act) (w:World) (v:Value) (w':World),(Builtin.append_ #[t,t] o.type #[a.eval p,a.eval q]).run P w= .ok v w'→(execOp a.eval o).run P w= .ok (.value v) w':=fun a w v w' hr=>by
  unfold execOp;rw[ho];simp only[resolve,invoke,builtin,bF,bZ,bL,s9,bV,e8,hr]
 obtain⟨xv,K,h1⟩:=aT (show((x.ev fr).bind fun v=>(y.ev fr).bind fun u=>iL s mu e j.size j.bytes u v)=some (d,s')from h);obtain⟨yv,T,V⟩:=aT h1
 have fresh: ∀(s2:List aa) (B:Nat) (k:aU) (a:Act) (w:World),RA k w (a.eval q) yv→St LL B k s2 w→ ∀(news:List (List D)) (L:Option Addr) (dz:AV),slA j.size yv=some news→a.eval p= .slice L 0 0→RA k w (a.eval p) dz→news=[]→dX P o a w fun v w'=> ∃k',RA k' w' v dz∧Ext B k w k' w'∧St LL B k' s2 w':=fun s2 B k a w N l news L dz O F b0 R=>by
  subst R;obtain⟨us,J,Q⟩:=zb (N.slA O);refine dX.value (v:=a.eval p) (w':=w) (S a w _ _ ?_) ⟨k,b0,Ext.refl B k w,l⟩;rw[F];obtain⟨hl,⟨c,a2,_⟩|⟨b3,c,a2,hc⟩⟩:=J
  ·rw[a2];cases L with
   |none=>simp[Builtin.append_,run_underlying hu,sizeOf,typeInfo,hj,Builtin.lenOf,Builtin.firstCells]
   |some a0=>simp[Builtin.append_,run_underlying hu,sizeOf,typeInfo,hj,Builtin.lenOf,Builtin.firstCells,storeCells]
  ·rw[a2];cases L with
   |none=>simp[Builtin.append_,run_underlying hu,sizeOf,typeInfo,hj,Builtin.lenOf,Builtin.firstCells,loadCells,loadCellsFrom]
   |some a0=>simp[Builtin.append_,run_underlying hu,sizeOf,typeInfo,hj,Builtin.lenOf,Builtin.firstCells,storeCells,loadCells,loadCellsFrom]
 have W: ∀(s2:List aa) (B:Nat) (k:aU) (a:Act) (w:World),RA k w (a.eval q) yv→St LL B k s2 w→ ∀(m:Nat),gi s2 m 1→ ∀(news:List (List D)) (L:Option Addr),slA j.size yv=some news→a.eval p= .slice L 0 0→news≠[]→bw news.length j.bytes=true→dX P o a w fun v w'=> ∃k',RA k' w' v (.tsl m j.size news)∧Ext B k w k' w'∧St LL B k' (fill s2 m [.row e j.size news.length]) w':=fun s2 B k a w N l m a5 news L O F R f=>by
  obtain⟨r1,r2⟩:=yi f;have hm:0<news.length:=by
   rcases uo news.length with e|e
   ·exact absurd (fK e) R
   ·exact e
  obtain⟨us,J,Q⟩:=zb (N.slA O);have a3:=yk (N.slA O);have key:=Ol (P:=P) w B t o.type e j z hu hj hz a7 L _ news.length us J Q.2.1 hm r1 r2 l.base;obtain⟨Y,w',hr,H,hg,a1,r⟩:=key;have Z:Below w.heap.size w w':=⟨r.os,r.tape,r.output,r.size,fun k hk=>r.block k hk (by simp)⟩
  have hI: ∀b,b<w.heap.size→dG k.I w.heap.size (news.length*j.size) b=k.I b:=fun b hb=>gW _ _ a8;obtain⟨he,a4⟩:=l.newAt Z hI a5 (.row Y news.length) (.row e j.size news.length) (fun b hb=>by rw[show(Own.row Y news.length).block=some w.heap.size from hg]at hb;cases hb;exact⟨bk _,a1⟩)
   fun _=>⟨rfl,⟨us,dO.of H⟩,fun g G=>by rw[hg]at G;cases G;exact fI ..⟩
  refine dX.value (S a _ _ _ (by rw[F];exact hr)) ⟨_,.tsl ?_ ⟨Y,news.length,pe l a5 _,bk _,fun _=>rfl⟩,he,a4⟩;refine tR (dO.of H) (Q.mono he.keep) rfl a3 fun g G=> ?_;rw[hg]at G;cases G;exact sf (fI ..).symm
 have U: ∀(n:Nat×List AV),gQ s j.size yv=some n→0<n.1→n.2.length=n.1*j.size→bw n.1 j.bytes=true→(∀(k:aU) (w:World) (v:Value),RA k w v xv→ ∃L,v= .slice L 0 0)→ix LL P o fr s (.vec s.length n.1 j.size) (s++[.vec e j.size n.2]):=fun n C hm c3 f a6=>by
  obtain⟨r1,r2⟩:=yi f;refine⟨[.vec e j.size n.2],rfl,fun s2 a9 O=> ?_⟩;intro B k a w i l;have A:=bI i hp hx K;have N:=bI i hq hy T;obtain⟨L,F⟩:=a6 k w _ A;obtain⟨us,J,Q⟩:=Ei l N (a3x l a9 N C)
  obtain⟨Y,w',hr,H,hg,a1,r⟩:=Ol (P:=P) w B t o.type e j z hu hj hz a7 L _ n.1 us J Q.2.1 hm r1 r2 l.base;have Z:Below w.heap.size w w':=⟨r.os,r.tape,r.output,r.size,fun k hk=>r.block k hk (by simp)⟩
  have hI: ∀b,b<w.heap.size→dG k.I w.heap.size 0 b=k.I b:=fun b hb=>gW _ _ a8;have b1: ∀b,(Own.row Y n.1).block=some b→w.heap.size≤b∧b<w'.heap.size:=fun b hb=>by rw[show(Own.row Y n.1).block=some w.heap.size from hg]at hb;cases hb;exact⟨bk _,a1⟩
  obtain⟨he,a4⟩:=l.newAt Z hI O (.row Y n.1) (.vec e j.size n.2) b1 fun hm=>⟨us,H,fun g G=>by rw[hg]at G;cases G;exact fI ..,c3,Q.mono hm⟩
  exact dX.value (S a _ _ _ (by rw[F];exact hr)) ⟨_,.vec (xP H) ⟨Y,n.1,pe l O _,bk _,fun _=>rfl⟩,he,a4⟩
 unfold iL at V;split at V
 ·rw[K]at ht;cases ht
 ·rename_i b2;split at V
  ·obtain⟨n,C,E⟩:=aT V;split at E
   ·rename_i M;obtain⟨⟨rfl,hm,c3⟩,f⟩:=M;obtain⟨rfl,rfl⟩:=eF (aJ E);exact U n C hm c3 f fun k w v hv=>⟨none,hv.nil_inv⟩
   ·cases E
  ·obtain⟨news,O,E⟩:=aT V;split at E
   ·rename_i R;obtain⟨rfl,rfl⟩:=eF (aJ E);refine⟨[],(bg _).symm,fun s2 _ _=> ?_⟩;rw[JX];intro B k a w i l;have A:=bI i hp hx K;exact fresh s2 B k a w (bI i hq hy T) l news none _ O A.nil_inv A R
   ·rename_i R;split at E
    ·rename_i M;obtain⟨rfl,f⟩:=M;obtain⟨rfl,rfl⟩:=eF (aJ E);refine⟨_,rfl,fun s2 _ hm=> ?_⟩;intro B k a w i l;have A:=bI i hp hx K;exact W s2 B k a w (bI i hq hy T) l _ hm news none O A.nil_inv R f
    ·cases E
 ·rename_i b2;split at V
  ·obtain⟨n,C,E⟩:=aT V;split at E
   ·rename_i M;obtain⟨⟨rfl,hm,c3⟩,f⟩:=M;obtain⟨rfl,rfl⟩:=eF (aJ E);exact U n C hm c3 f fun k w v hv=>hv.emp_inv
   ·cases E
  ·obtain⟨news,O,E⟩:=aT V;split at E
   ·rename_i R;obtain⟨rfl,rfl⟩:=eF (aJ E);refine⟨[],(bg _).symm,fun s2 _ _=> ?_⟩;rw[JX];intro B k a w i l;have A:=bI i hp hx K;obtain⟨L,F⟩:=A.emp_inv;exact fresh s2 B k a w (bI i hq hy T) l news L _ O F A R
   ·rename_i R;split at E
    ·rename_i M;obtain⟨rfl,f⟩:=M;obtain⟨rfl,rfl⟩:=eF (aJ E);refine⟨_,rfl,fun s2 _ hm=> ?_⟩;intro B k a w i l;have A:=bI i hp hx K;obtain⟨L,F⟩:=A.emp_inv;exact W s2 B k a w (bI i hq hy T) l _ hm news L O F R f
    ·cases E
 ·rw[K]at ht;cases ht
 ·rw[K]at ht;cases ht
 ·cases V
theorem Vp{mu:Bool}{t e:TypeId}{j:TypeInfo}{z:Value}{p q:Operand}{x y:X}(ho:o.op= .call {callee:= .builtin .append,args:= #[p,q],argTypes:= #[t,t]})(hu:P.underlying t=some (.slice e))(hj:P.info? e=some j)(hz:j.zero=some z)(b5:z.cells.size=j.size)
  (hx:cX P t p=some x) (hy:cX P t q=some y) (h:(CI.app mu e j.size j.bytes x y).sem fr s=some (d,s')):bu LL P o fr s d s':=by
 have hp:p∈o.op.operands:=by rw[ho];simp[Op.operands,Call.operands]
 have hq:q∈o.op.operands:=by rw[ho];simp[Op.operands,Call.operands]
 have O: ∀(a:Act) (w:World) (v:Value) (w':World),(Builtin.append_ #[t,t] o.type #[a.eval p,a.eval q]).run P w= .ok v w'→(execOp a.eval o).run P w= .ok (.value v) w':=fun a w v w' T=>by
  unfold execOp;rw[ho];simp only[resolve,invoke,builtin,bF,bZ,bL,s9,bV,e8,T]
 by_cases hN:lV (x.ev fr)=3
 ·exact(LY ho hu hj hz b5 hx hy h hN).op
 obtain⟨xv,d4,h1⟩:=aT (show((x.ev fr).bind fun v=>(y.ev fr).bind fun u=>iL s mu e j.size j.bytes u v)=some (d,s')from h);obtain⟨yv,f8,h2⟩:=aT h1;intro B k a w b8 A;have d2:=bI b8 hp hx d4;have b4:=bI b8 hq hy f8;unfold iL at h2;split at h2
 ·rename_i id n f0;obtain⟨C,Z,h3⟩:=aT h2;obtain⟨⟨f9,ds⟩,c0,h4⟩:=aT h3;obtain⟨e',G,b2,K⟩:=iw c0;split at h4
  ·rename_i a5;obtain⟨⟨rfl,c1,c2,c3⟩,c4⟩:=a5;dsimp only at c1;subst c1;have c7:lY s[id]?=e':=by rw[G];rfl
   rw[c7]at c2;subst c2;obtain⟨r1,r2⟩:=yi c4;obtain⟨rfl,rfl⟩:=eF (aJ h4);obtain⟨⟨ad,cc,hv⟩,u,n',l,e4,a6⟩:=d2.vec_inv;obtain⟨v,n2,xs,g1,D,hI,g4,b3⟩:=A.vec G;rw[l]at g1;cases g1;have c9:n=n':=by
    rw[K]at g4;exact kX b2 g4
   subst c9;have Q:=a6 rfl;obtain⟨us,F,R⟩:=Ei A b4 Z;obtain⟨v',w',T,f⟩:=Eb (P:=P) w B t o.type e' j z hu hj hz b5 _ n xs (dO.of D) _ C.1 us F R.2.1 r2 r1 A.base;rcases f with⟨h0,rfl,rfl⟩|⟨hm,⟨_,hownR⟩,hb,f⟩
   ·have a9:C.2=[]:=fK (by rw[c3,h0];simp);rw[h0,a9];refine dX.value (O a _ _ _ (by rw[Q];exact T)) ⟨k,.vec ⟨ad,cc,by rw[←Q];simpa using hv⟩ ⟨v',n,l,by simp,fun _=>rfl⟩,Ext.refl B k _,?_⟩;have:s.set id (.vec e' j.size (ds++[]))=s:=by
     obtain⟨a3,a4⟩:=b9.1 G;rw[bg,←a4];exact yW a3
    rw[this];exact A
   ·have i:=hownR D;have M: ∃S,v'.ownBlock=some S∧(u.ownBlock=some S∨(S=w.heap.size∧w.heap.size<w'.heap.size))∧(∀b,b<w.heap.size→b≠S→w'.heap[b]?=w.heap[b]?):=by
     rcases f with⟨g,V,H,I⟩|⟨hg,hlt,I⟩
     ·exact⟨g,V,.inl H,fun b hb hne=>I.block b hb (by simpa using hne)⟩
     ·exact⟨w.heap.size,hg,.inr ⟨rfl,hlt⟩,fun b hb _=>I.block b hb (by simp)⟩
    obtain⟨S,U,E,W⟩:=M;obtain⟨he,Y⟩:=A.grow (x0:=0) (x:=0) (ob:= .vec e' j.size (ds++C.2)) l hI hm (bk _) hb U E W (fun _ q u hq _=>by omega)
     fun L=>⟨xs++us,i,fun g hg=>by rw[U]at hg;cases hg;exact fI ..,by rw[aR,K,c3,fe],(b3.mono L).append (R.mono L)⟩
    have J:=(b9.1 l).1;exact dX.value (O a _ _ _ (by rw[Q];exact T)) ⟨_,.vec (xP i) ⟨v',n+C.1,by simp[J],bk _,fun _=>rfl⟩,he,Y⟩
  ·cases h4
 ·exact absurd (by rw[d4];rfl) hN
 ·exact absurd (by rw[d4];rfl) hN
 ·rename_i id f0 rows;obtain⟨news,hn,h3⟩:=aT h2;split at h3
  ·rename_i a5;obtain⟨⟨rfl,e7⟩,d1⟩:=a5;obtain⟨f2,f1⟩:=yi d1;have G:=He e7;obtain⟨rfl,rfl⟩:=eF (aJ h3);obtain⟨hv,u,n',l,e4,a6⟩:=d2.tsl_inv;obtain⟨v,xs,e0,D,hI⟩:=A.row G;rw[l]at e0;cases e0;have Q:=a6 rfl;rw[Q]at hv;obtain⟨us,F,R⟩:=zb (b4.slA hn);have hnrows:=yk (b4.slA hn);have hrrows:=yk hv
   have b3:=yj hv D;obtain⟨v',w',T,f⟩:=Eb (P:=P) w B t o.type e j z hu hj hz b5 _ rows.length xs D _ news.length us F R.2.1 f1 f2 A.base;rcases f with⟨h0,rfl,rfl⟩|⟨hm,⟨i,_⟩,hb,f⟩
   ·have:news=[]:=fK h0;subst this;refine dX.value (O a _ _ _ (by rw[Q];exact T)) ⟨k,.tsl (by simpa using hv) ⟨v',rows.length,l,by simp,fun _=>rfl⟩,Ext.refl B k _,?_⟩;simp only[b6,aE];have:s.set id (.row e j.size rows.length)=s:=by
     obtain⟨a3,a4⟩:=b9.1 G;rw[←a4];exact yW a3
    rw[this];exact A
   ·have M: ∃S,v'.ownBlock=some S∧(u.ownBlock=some S∨(S=w.heap.size∧w.heap.size<w'.heap.size))∧(∀b,b<w.heap.size→b≠S→w'.heap[b]?=w.heap[b]?)∧(u.ownBlock=some S→ ∀q x,q<rows.length*j.size→w.cell? ⟨S,q,none⟩=some x→w'.cell? ⟨S,q,none⟩=some x):=by
     rcases f with⟨g,V,H,I⟩|⟨hg,hlt,I⟩
     ·refine⟨g,V,.inl H,fun b hb hne=>I.block b hb (by simpa using hne),fun _ q x hq hc=> ?_⟩;have e1:=D.cells H;have e2:=i.cells V;have hl:=D.1;have e9:xs[q]?=some xs[q]:=bN a8;have a1:=e1 q _ e9;rw[fi,aw]at a1;rw[a1]at hc;obtain rfl:=aJ hc
      have a2:=e2 q xs[q] (by rw[fM a8];exact e9);rw[fi,aw]at a2;exact a2
     ·refine⟨w.heap.size,hg,.inr ⟨rfl,hlt⟩,fun b hb _=>I.block b hb (by simp),fun H=> ?_⟩;have:=(A.lies id _ _ l H).2;omega
    obtain⟨S,U,E,W,e6⟩:=M;obtain⟨he,Y⟩:=A.grow (x:=(rows.length+news.length)*j.size) (ob:= .row e j.size (rows.length+news.length)) l hI hm (by rw[fe];omega) hb U E W e6
     fun _=>⟨rfl,⟨_,i⟩,fun g hg=>by rw[U]at hg;cases hg;exact fI ..⟩
    have J:=(b9.1 l).1;refine dX.value (O a _ _ _ (by rw[Q];exact T)) ⟨_,.tsl ?_ ⟨v',rows.length+news.length,by simp[J],by simp,fun _=>rfl⟩,he,Y⟩;refine tR i (by rw[s8];exact(b3.mono he.keep).append (R.mono he.keep)) (by simp) (fun r T=> ?_) fun g d9=> ?_
    ·rcases eJ.1 T with T|T
     ·exact hrrows r T
     ·exact hnrows r T
    ·rw[U]at d9;cases d9;exact sf (fI ..).symm
  ·cases h3
 ·rename_i id N off m f0;obtain⟨C,Z,h3⟩:=aT h2;obtain⟨⟨f9,ds⟩,c0,h4⟩:=aT h3;obtain⟨e',G,b2,K⟩:=iw c0;split at h4
  ·rename_i a5;obtain⟨⟨⟨rfl,c1,c2,c3⟩,c5,c6⟩,c4⟩:=a5;dsimp only at c1 h4;subst c1;subst c5;have c7:lY s[id]?=e':=by rw[G];rfl
   rw[c7]at c2;subst c2;obtain⟨r1,r2⟩:=yi c4;have h5:=aJ h4;obtain⟨_,u,n',l,e4,a6⟩:=d2.vwn_inv;obtain⟨v,n2,xs,g1,D,hI,g4,b3⟩:=A.vec G;rw[l]at g1;cases g1;have c9:N=n':=by
    rw[K]at g4;exact kX b2 g4
   subst c9;obtain⟨b,c,a0,hv,c8,d7⟩:=a6 rfl;have d3:u.ownBlock=some b:=by rw[a0];rfl
   rw[pR]at hv;obtain⟨us,F,R⟩:=Ei A b4 Z;have f6:m*j.size≤N*j.size:=iP _ c6;obtain⟨u',g0,cap,cur,q1,q2,q3,q4,q5,q6,q7,q8,q9,g8,g9,h6⟩:=yF A G b2 K ⟨u,N,l,bk _,fun _=>d3⟩;rw[l]at q1;cases q1;have g6:N*j.size≤cap*j.size:=iP _ q6;have g2:0+c=cap:=by rw[a0]at q3;injection q3
   have d6:c=cap:=by omega
   have hk:us.length=C.1*j.size:=F.1;split at h5
   ·
    rename_i f4;obtain⟨rfl,rfl⟩:=eF h5;have d8:(m+C.1)*j.size≤N*j.size:=iP _ f4;rw[fe]at d8;obtain⟨b7,hh,g3,he,Y⟩:=Pk A G b2 K ⟨u,N,l,bk _,fun _=>d3⟩ R (off:=m*j.size) a8;rw[hk]at he Y;by_cases a7:C.1=0
    ·have a9:C.2=[]:=fK (by rw[c3,a7];simp);have T:(Builtin.append_ #[t,t] o.type #[.slice (some ⟨b,0,none⟩) m c,a.eval q]).run P w= .ok (.slice (some ⟨b,0,none⟩) m c) w:=by
      obtain⟨hl,⟨c',b1,_⟩|⟨d5,c',b1,hc⟩⟩:=F
      ·rw[b1];simp[Builtin.append_,run_underlying hu,sizeOf,typeInfo,hj,Builtin.lenOf,Builtin.firstCells,c8,storeCells]
      ·rw[b1,a7];simp[Builtin.append_,run_underlying hu,sizeOf,typeInfo,hj,Builtin.lenOf,Builtin.firstCells,c8,storeCells,loadCells,loadCellsFrom]
     refine dX.value (O a _ _ _ (by rw[hv];exact T)) ⟨k,?_,Ext.refl B k _,?_⟩
     ·rw[a7,aE];exact .vwn ⟨_,_,rfl⟩ ⟨u,N,l,bk _,fun _=>⟨b,c,a0,by rw[pR],c8,d7⟩⟩
     ·have:s.set id (.vec e' j.size (ds.take (m*j.size)++C.2++ds.drop (m*j.size+C.1*j.size)))=s:=by
       obtain⟨a3,a4⟩:=b9.1 G;rw[a9,a7,pR,aE,bg,ji,←a4];exact yW a3
      rw[this];exact A
    ·obtain⟨hl,⟨c',_,h0⟩|⟨d5,c',b1,hc⟩⟩:=F
     ·exact absurd h0 a7
     ·have T:=run_append_room (P:=P) w t o.type e' j hu hj b m c b7 hh d5 C.1 c' us hl hc R.2.1 a8 (by rw[hk];omega);rw[hk]at T;refine dX.value (O a _ _ _ (by rw[hv,b1];exact T)) ⟨k,?_,he,Y⟩;exact .vwn ⟨_,_,rfl⟩ ⟨u,N,l,bk _,fun _=>⟨b,c,a0,by rw[pR],by omega,d7⟩⟩
   ·
    rename_i g5;obtain⟨rfl,rfl⟩:=eF h5;have f5:0<C.1:=by omega
    have g7:xs.length=N*j.size:=D.1;have f7:g0=xs:=by
     rw[←q9];rcases D.2 with⟨hn,_⟩|⟨g,cap',b7,V,_,H,_,_,_,hg3⟩
     ·rw[a0]at hn;cases hn
     ·rw[a0]at V;injection V with e1 _ _
      injection e1 with e1;injection e1 with e1 _ _
      subst e1;rw[q5]at H;have e2:=aJ H;injection e2 with e3 _ _
      rw[e3];exact hg3
    have b0:w.ownsRow B e' j.size (.slice (some ⟨b,0,none⟩) m c) m (xs.take (m*j.size)):=by
     refine⟨by rw[ck];omega,.inr ⟨b,c,cur,rfl,q4,q5,by omega,by omega,by rw[d6];exact q8,?_⟩⟩;rw[←f7,←q9,se,qG f6]
    obtain⟨v',w',T,f⟩:=Eb (P:=P) w B t o.type e' j z hu hj hz b5 _ m (xs.take (m*j.size)) (dO.of b0) _ C.1 us F R.2.1 r2 r1 A.base;rcases f with⟨h0,_⟩|⟨_,⟨_,hownR⟩,hb,f⟩
    ·omega
    ·have i:=hownR b0;have M: ∃S,v'.ownBlock=some S∧(u.ownBlock=some S∨(S=w.heap.size∧w.heap.size<w'.heap.size))∧(∀b,b<w.heap.size→b≠S→w'.heap[b]?=w.heap[b]?):=by
      rcases f with⟨g,V,H,I⟩|⟨hg,hlt,I⟩
      ·refine⟨g,V,.inl ?_,fun b hb hne=>I.block b hb (by simpa using hne)⟩;rw[d3];exact H
      ·exact⟨w.heap.size,hg,.inr ⟨rfl,hlt⟩,fun b hb _=>I.block b hb (by simp)⟩
     obtain⟨S,U,E,W⟩:=M;obtain⟨p,e5⟩: ∃p,m+C.1=N+p:=⟨m+C.1-N,by omega⟩
     have d0:0<p:=by omega
     rw[e5]at i⊢;have f3:(ds.take (m*j.size)).length=m*j.size:=by rw[ck,K];omega
     obtain⟨he,Y⟩:=A.grow (x0:=0) (x:=0) (ob:= .vec e' j.size (ds.take (m*j.size)++C.2)) l hI d0 (bk _) hb U E W (fun _ q u hq _=>by omega)
      fun L=>⟨xs.take (m*j.size)++us,i,fun g hg=>by rw[U]at hg;cases hg;exact fI ..,by rw[aR,f3,c3,←fe,e5],((b3.mono L).take _).append (R.mono L)⟩
     have J:=(b9.1 l).1;exact dX.value (O a _ _ _ (by rw[hv];exact T)) ⟨_,.vec (xP i) ⟨v',N+p,by simp[J],bk _,fun _=>rfl⟩,he,Y⟩
  ·cases h4
 ·cases h2
end
end Go.Bb
namespace Go.Bb
open Go Go.RowKit Go.Ab Go.Proofs.Lg
section
variable {LL:Nat→Code→CC→Prop} {P:Program} {o:Oper} {fr:Fr} {s s':List aa} {d:AV}
theorem LD{B:Nat}{k:aU}{w:World}(c:St LL B k s w){p:Nat}(hp:gi s p 1){x:List aa}{mu:Bool}{e sz n cap:Nat}{cur:Array Value}{cs:List AV}(f:bO k w (cur.toList.take (n*sz)) cs)(A:cs.length=n*sz)(v:cur.size=cap*sz)(u:n≤cap)(o:cap≤9223372036854775807)
  (h:(if mu then some (AV.vec p n sz,[aa.vec e sz cs])else(toLs cs).map fun ds=>(.tsl p sz (chunk sz n ds),[.row e sz n]))=some (d,x)):
  ∃k',RA k' (w.alloc (.cells cur e)) (.slice (some ⟨w.heap.size,0,none⟩) n cap) d∧Ext B k w k' (w.alloc (.cells cur e))∧St LL B k' (fill s p x) (w.alloc (.cells cur e)):=by
 have hb:Below w.heap.size w (w.alloc (.cells cur e)):=(Below.refl _ _).alloc (bk _) _;have z:(w.alloc (.cells cur e)).heap[w.heap.size]?=some (.cells cur e (0,0)):=heap_alloc_new w _;have t:w.heap.size<(w.alloc (.cells cur e)).heap.size:=(fB.1 z).1
 have a:(w.alloc (.cells cur e)).ownsRow B e sz (.slice (some ⟨w.heap.size,0,none⟩) n cap) n (cur.toList.take (n*sz)):=
  ⟨by rw[f.1,A],.inr ⟨w.heap.size,cap,cur,rfl,c.base,z,u,by unfold maxLen;exact o,v,rfl⟩⟩
 have y: ∀x b,b<w.heap.size→dG k.I w.heap.size x b=k.I b:=fun x b hb=>gW _ _ a8;have l: ∀b,(Own.row (.slice (some ⟨w.heap.size,0,none⟩) n cap) n).block=some b→w.heap.size≤b∧b<(w.alloc (.cells cur e)).heap.size:=fun b hb=>by cases hb;exact⟨bk _,t⟩
 cases mu with
 |true=>
  obtain⟨rfl,rfl⟩:=eF (aJ (by simpa using h));obtain⟨m,i⟩:=c.newAt hb (y 0) hp _ (.vec e sz cs) l fun hm=>⟨_,a,(fun g hg=>by cases hg;exact fI ..),A,f.mono hm⟩
  exact⟨_,.vec ⟨_,_,rfl⟩ ⟨_,n,pe c hp _,bk _,fun _=>rfl⟩,m,i⟩
 |false=>
  simp only[jU,if_false]at h;obtain⟨ds,j,C⟩:=bB h;obtain⟨rfl,rfl⟩:=eF C;obtain⟨m,i⟩:=c.newAt hb (y (n*sz)) hp _ (.row e sz n) l fun _=>⟨rfl,⟨_,dO.of a⟩,fun g hg=>by cases hg;exact fI ..⟩
  have D:=(Eo j).1;obtain⟨q,r⟩:=su sz n ds a8;refine⟨_,.tsl ?_ ⟨_,n,pe c hp _,by rw[qS];exact bk _,fun _=>rfl⟩,m,i⟩;refine tR (dO.of a) (by rw[q];exact(f.toLs j).mono m.keep) (qS sz n ds) r fun g hg=> ?_;cases hg;exact sf (fI ..).symm
theorem LC{s b:List aa}{mu:Bool}{v d:AV}{A B:aa}{α:Type}{o:Option α}{f:α→AV}(h:(if mu then some (v,s++[A])else o.map fun ds=>(f ds,s++[B]))=some (d,b)): ∃x,x.length=1∧b=s++x∧(if mu then some (v,[A])else o.map fun ds=>(f ds,[B]))=some (d,x):=by
 cases mu with
 |true=>
  obtain⟨rfl,rfl⟩:=eF (aJ (by simpa using h));exact⟨[A],rfl,rfl,rfl⟩
 |false=>
  simp only[jU,if_false]at h;obtain⟨ds,a,c⟩:=bB h;obtain⟨rfl,rfl⟩:=eF c;exact⟨[B],rfl,rfl,by simp[a]⟩
theorem SS{B:Nat}{k:aU}{w:World}(a:St LL B k s w){e sz n cap:Nat}{cur:Array Value}{cs:List AV}{ds:List D}(b:bO k w (cur.toList.take (n*sz)) cs)(r:cs.length=n*sz)(i:cur.size=cap*sz)(f:n≤cap)(l:cap≤9223372036854775807)
  (c:toLs cs=some ds):
  ∃k',RA k' (w.alloc (.cells cur e)) (.slice (some ⟨w.heap.size,0,none⟩) n cap) (.d (.sl sz (chunk sz n ds)))∧Ext B k w k' (w.alloc (.cells cur e))∧St LL B k' s (w.alloc (.cells cur e)):=by
 have hb:Below w.heap.size w (w.alloc (.cells cur e)):=(Below.refl _ _).alloc (bk _) _;have q:(w.alloc (.cells cur e)).heap[w.heap.size]?=some (.cells cur e (0,0)):=heap_alloc_new w _;have h:(w.alloc (.cells cur e)).ownsRow B e sz (.slice (some ⟨w.heap.size,0,none⟩) n cap) n (cur.toList.take (n*sz)):=
  ⟨by rw[b.1,r],.inr ⟨w.heap.size,cap,cur,rfl,a.base,q,f,by unfold maxLen;exact l,i,rfl⟩⟩
 have p:=Ext.called (k:=k) a.base hb;have t:=(Eo c).1;obtain⟨m,o⟩:=su sz n ds a8;refine⟨_,.d ?_,p,a.called hb⟩;refine tR (dO.of h) (by rw[m];exact(b.toLs c).mono p.keep) (qS sz n ds) o fun g hg=> ?_;cases hg;have j:fY k.I w.heap.size (w.alloc (.cells cur e)) w.heap.size=cur.size:=by
  unfold fY cellsIn;rw[if_neg (Nat.lt_irrefl _),q]
 show n*sz≤fY k.I w.heap.size (w.alloc (.cells cur e)) w.heap.size;rw[j,i];exact iP _ f
theorem Vu{t:TypeId}{p:Operand}{x:X}(r:o.op= .box t p)(C:cX P t p=some x)(h:(CI.bxf x).sem fr s=some (d,s')):bu LL P o fr s d s':=by
 have hp:p∈o.op.operands:=by rw[r];simp[Op.operands]
 obtain⟨z,rfl⟩:=dK h;obtain⟨cs,m,j⟩:=aT (show(((x.ev fr).bind AV.cells).bind fun cs=>(toLs cs).map fun ds=>AV.d (.ref ds))=some d from z);obtain⟨ds,n,rfl⟩:=bB (show((toLs cs).map fun ds=>AV.d (.ref ds))=some d from j);obtain⟨v,A,hc⟩:=aT m;intro B k a w f g;have e:=(bI f hp C A).cells hc;generalize hcells:(a.eval p).cells=cells at e
 have hb:Below w.heap.size w (w.alloc (.cells cells t)):=(Below.refl _ _).alloc (bk _) _;have j:(w.alloc (.cells cells t)).heap[w.heap.size]?=some (.cells cells t (0,0)):=heap_alloc_new w _;have q:=Ext.called (k:=k) g.base hb;have c:=(e.toLs n).mono q.keep;have l:fY k.I w.heap.size (w.alloc (.cells cells t)) w.heap.size=cells.size:=by
  unfold fY cellsIn;rw[if_neg (Nat.lt_irrefl _),j]
 refine dX.value ?_ ⟨_,.d (.ref w.heap.size 0 cells.toList ds c.1 c.2.1 (fun i u y=>⟨?_,?_⟩) c.2.2),q,g.called hb⟩
 ·unfold execOp;rw[r];refine eI ?_;simp only[Instr.box,newVar,newRow,bF,bZ,run_newObj,bL,hcells];rfl
 ·show 0+i<fY k.I w.heap.size (w.alloc (.cells cells t)) w.heap.size;rw[l];have:=(b9.1 y).1;rw[gz]at this;omega
 ·have:=uG (w:=w.alloc (.cells cells t)) (b:=w.heap.size) (t:=t) (us:=cells.toList) (by simpa using j) i;rw[aw,this];exact y
theorem Oh{fz:Bool}{t e:TypeId}{n:Nat}{d:TypeInfo}{z0:Value}{b:Array (Nat×Operand)}{v:List (Nat×Nat×X)}(s:o.op= .buildSlice t n b)(m:P.underlying t=some (.slice e))(h:P.info? e=some d)(D:d.zero=some z0)
  (E:n*d.size≤2^24) (y:(jd z0.cells (n*d.size)).all (·.oneCell')=true) (B:qQ P (fun i=>some (i*d.size,d.size)) (fun _=>e) b.toList=some v) {cs:List AV} (q:kh fr (yJ fz (nC P e (jd z0.cells (n*d.size)).toList)) v=some cs)
  {k:aU} {a:Act} {w:World} (l:jm k w a o fr): ∃c,bO k w c.toList cs∧(execOp a.eval o).run P w= .ok (.value (.slice (some ⟨w.heap.size,0,none⟩) n n)) (w.alloc (.cells c e)):=by
 have j: ∀x∈b.toList,x.2∈o.op.operands:=fun x C=>by
  rw[s];simp only[Op.operands];simp;exact⟨x.1,by simpa using C⟩
 obtain⟨c,z,A⟩:=zX (a:=a) l B j (HQ fz (EB (P:=P) (t:=e) (fun u m=>rX.1 y u (by simpa using m)) k w)) q;refine⟨c,A,?_⟩;unfold execOp;rw[s];refine eI ?_;have hne: ¬(n*d.size>2^24):=by omega
 have g:Instr.fill (fun i=>some (i*d.size,d.size)) (jd z0.cells (n*d.size)) (b.map fun x=>(x.1,a.eval x.2)).toList=some c:=by rw[←z];simp
 by_cases p:n*d.size=0
 ·have f: ∀r:Array Value,(Array.range (n*d.size)).map (fun x=>r[x % r.size]!)=jd z0.cells (n*d.size):=fun r=>by rw[p];simp[jd]
  simp only[Instr.buildSlice,bF,run_underlying m,bL,sizeOf,typeInfo,run_program,h,bZ,if_neg hne,if_pos p,f,g,newRow,run_newObj];rfl
 ·have f:(Array.range (n*d.size)).map (fun x=>z0.cells[x % z0.cells.size]!)=jd z0.cells (n*d.size):=rfl;simp only[Instr.buildSlice,bF,run_underlying m,bL,sizeOf,typeInfo,run_program,h,bZ,if_neg hne,if_neg p,zeroValue,D,f,g,newRow,run_newObj];rfl
theorem VT{fz mu:Bool}{t:TypeId}{n:Nat}{g:Array (Nat×Operand)}{ci:CI}(L:o.op= .buildSlice t n g)(hc:wO P fz mu t n g.toList=some ci)(h:ci.sem fr s=some (d,s')):bu LL P o fr s d s'∧(ci.touch fr=3→ix LL P o fr s d s'):=by
 unfold wO at hc;split at hc
 ·rename_i e N;split at hc
  ·rename_i q p;split at hc
   ·rename_i z0 O;split at hc
    ·rename_i y;obtain⟨T,I,J⟩:=y;obtain⟨S,M,r⟩:=bB hc;cases fz with
     |false=>
      simp only[jU,if_false]at r;subst r;obtain⟨cs,j,i⟩:=aT (show((kh fr _ S).bind fun cs=>ym s mu e q.size n cs)=some (d,s')from h);unfold ym at i;split at i
      ·rename_i z;obtain⟨u,v⟩:=z;obtain⟨x,E,rfl,D⟩:=LC i;have key:ix LL P o fr s d (s++x):=by
        refine⟨x,rfl,fun s2 _ K=> ?_⟩;rw[E]at K;intro B k a w c l;obtain⟨b,m,f⟩:=Oh (fz:=false) (P:=P) L N p O I J M j c;have C:b.size=n*q.size:=by have:=m.1;simp at this;omega
        obtain⟨k',F,G,H⟩:=LD l K (mu:=mu||(toLs cs).isNone) (e:=e) (sz:=q.size) (n:=n) (cap:=n) (cur:=b) (cs:=cs) (by rw[dq (by simp;omega)];exact m) u C (bk _) v D;exact dX.value f ⟨k',F,G,H⟩
       exact⟨key.op,fun _=>key⟩
      ·cases i
     |true=>
      simp only[if_true]at r;subst r;obtain⟨Q,rfl⟩:=dK h;obtain⟨cs,j,i⟩:=aT Q;unfold nk at i;split at i
      ·rename_i z;obtain⟨u,v⟩:=z;obtain⟨ds,A,rfl⟩:=bB i;refine⟨?_,fun R=>by cases R⟩;intro B k a w c l;obtain⟨b,m,f⟩:=Oh (fz:=true) (P:=P) L N p O I J M j c;have C:b.size=n*q.size:=by have:=m.1;simp at this;omega
       obtain⟨k',F,G,H⟩:=SS l (e:=e) (sz:=q.size) (n:=n) (cap:=n) (cur:=b) (cs:=cs) (by rw[dq (by simp;omega)];exact m) u C (bk _) v A;exact dX.value f ⟨k',F,G,H⟩
      ·cases i
    ·cases hc
   ·cases hc
  ·cases hc
 ·cases hc
theorem PM(z:Value)(n:Nat):jd #[z] n=(List.replicate n z).toArray:=by
 unfold jd;apply Array.ext';simp;refine iX fun i=> ?_;simp only[dL,oL,List.getElem?_range'];by_cases h:i<n
 ·simp[h,Nat.mod_one]
 ·simp[h]
theorem PD{n:Int}(h:0≤n)(a:n<9223372036854775808):IntKind.i64.wrap n=n:=by
 simp only[IntKind.wrap,IntKind.bits,IntKind.signed];have:n % 2^64=n:=by omega
 simp only[this];simp;omega
theorem VM{
        mu:Bool} {t:TypeId} {p q:Operand} {ci:CI} (X:o.op= .makeSlice t p q) (hc:wN P mu t p q=some ci) (h:ci.sem fr s=some (d,s')):ix LL P o fr s d s':=by
 have hp:p∈o.op.operands:=by rw[X];simp[Op.operands]
 have hq:q∈o.op.operands:=by rw[X];simp[Op.operands]
 unfold wN at hc;split at hc
 ·rename_i e x0 y0 c hx hy;split at hc
  ·rename_i K C;split at hc
   ·rename_i z0 hz;split at hc
    ·rename_i Q;obtain⟨c1,c2,c3⟩:=Q;obtain rfl:=aJ hc;obtain⟨n,hn,h1⟩:=aT (show(((x0.ev fr).bind AV.int?).bind fun n=>((y0.ev fr).bind AV.int?).bind fun m=>yn s mu e K.bytes (cL P e z0) n m)=some (d,s')from h);obtain⟨m,hm,M⟩:=aT h1;obtain⟨xv,a0,W⟩:=aT hn;obtain⟨yv,a1,V⟩:=aT hm;unfold yn at M;split at M
     ·rename_i z;obtain⟨d1,d2,d3,d4⟩:=z;obtain⟨x,Z,rfl,l⟩:=LC (f:=fun y=> .tsl s.length 1 (List.replicate n.toNat [y])) M;refine⟨x,rfl,fun s2 _ D=> ?_⟩;rw[Z]at D;intro B k a w g Y;have E:=(bI g hp hx a0).sc_eq (AV.int_sc W);have F:=(bI g hq hy a1).sc_eq (AV.int_sc V)
      have a3:z0.cells= #[z0]:=by cases z0<;>first|rfl|simp[Value.oneCell']at c2
      have G:bO k w (List.replicate n.toNat z0) (List.replicate n.toNat (cL P e z0)):=by
       refine⟨by simp,fun u c=> ?_,fun i u d c S=> ?_⟩
       ·obtain⟨_,rfl⟩:=List.mem_replicate.1 c;exact c2
       ·rw[oL]at c S;split at c
        ·rename_i U;rw[if_pos U]at S;cases c;cases S;exact zq ..
        ·cases c
      have r:(jd #[z0] m.toNat).toList.take (n.toNat*1)=List.replicate n.toNat z0:=by
       rw[PM];simp[List.take_replicate];omega
      have A:(jd #[z0] m.toNat).size=m.toNat*1:=by rw[PM];simp
      have j:=LD Y D (mu:=mu) (e:=e) (sz:=1) (n:=n.toNat) (cap:=m.toNat) (cur:=jd #[z0] m.toNat) (cs:=List.replicate n.toNat (cL P e z0)) (d:=d) (x:=x) (by rw[r];exact G) (by simp) A a8 a8 (by
       cases mu with
       |true=>simpa using l
       |false=>
        simp only[jU,if_false]at l⊢;obtain⟨y,T,h3⟩:=bB l;have ht: ∀k:Nat,toLs (List.replicate k (cL P e z0))=some (List.replicate k y):=fun k=>by
         induction k with
         |zero=>rfl
         |succ k ih=>simp[sa,toLs,T,ih]
        have R: ∀k:Nat,chunk 1 k (List.replicate k y)=List.replicate k [y]:=fun k=>by
         induction k with
         |zero=>rfl
         |succ k ih=>simp[sa,chunk,ih]
        rw[ht];simp only[eZ,R];rw[h3])
      obtain⟨k',m1,m2,m3⟩:=j;refine dX.value (v:= .slice (some ⟨w.heap.size,0,none⟩) n.toNat m.toNat) (w':=w.alloc (.cells (jd #[z0] m.toNat) e)) ?_ ⟨k',m1,m2,m3⟩;unfold execOp;rw[X];refine eI ?_;have O:(1:Int)≤K.bytes:=by omega
      have a4:m*1≤m*(K.bytes:Int):=Int.mul_le_mul_of_nonneg_left O a8;have H:IntKind.i64.wrap n=n:=PD d1 a8;have I:IntKind.i64.wrap m=m:=PD a8 a8;have hlarge:(decide (m<0)||decide ((K.bytes:Int)*m>2^48))=false:=by
       rw[Int.mul_comm];simp;omega
      have b:(((decide (m<0)||decide ((K.bytes:Int)*m>2^48))||decide (n<0))||decide (n>m))=false:=by
       rw[hlarge];simp;omega
      have J: ∀N:Array Value,(m.toNat=0∨N= #[z0])→(Array.range (m.toNat*1)).map (fun x=>N[x % N.size]!)=jd #[z0] m.toNat:=fun N a2=>by
       rcases a2 with L|rfl
       ·rw[L];simp[jd]
       ·rw[aF];rfl
      by_cases L:m.toNat*1=0
      ·simp only[Instr.makeSlice,E,F,asInt,asIntOf,bF,run_underlying c,bL,sizeOf,typeInfo,run_program,C,bZ,H,I,b,jU,if_false,run_askRoom,c1,if_pos L,J _ (Or.inl (by omega:m.toNat=0)),newRow,run_newObj];rfl
      ·simp only[Instr.makeSlice,E,F,asInt,asIntOf,bF,run_underlying c,bL,sizeOf,typeInfo,run_program,C,bZ,H,I,b,jU,if_false,run_askRoom,c1,if_neg L,zeroValue,hz,a3,J _ (Or.inr rfl),newRow,run_newObj];rfl
     ·cases M
    ·cases hc
   ·cases hc
  ·cases hc
 ·cases hc
theorem VU{m dst e:TypeId}{p:Operand}{x:X}(K:o.op= .convert m dst p)(Q:P.underlying m=some .string)(M:P.underlying dst=some (.slice e))(S:P.underlying e=some (.int .u8))(T:cX P m p=some x)(h:(CI.s2b x).sem fr s=some (d,s')):bu LL P o fr s d s':=by
 have hp:p∈o.op.operands:=by rw[K];simp[Op.operands]
 obtain⟨hc,rfl⟩:=dK h;obtain⟨b,hb,g⟩:=aT hc;obtain⟨V,J,E⟩:=aT hb;unfold H7 at g;split at g
 ·rename_i R;obtain rfl:=aJ g;intro B k a w z A;have N:=(bI z hp T J).sc_eq (AV.str_sc E);have q:Below w.heap.size w (Lib.bytesWorld w e b):=⟨rfl,rfl,rfl,by rw[Lib.bytesWorld_size];omega,fun j O=>Lib.bytesWorld_at_old w e b j O⟩
  refine dX.value (v:= .slice (some ⟨w.heap.size,0,none⟩) b.size (grownCap w b.size 0 e)) (w':=Lib.bytesWorld w e b) ?_ ⟨⟨fY k.I w.heap.size (Lib.bytesWorld w e b),k.own⟩,.d ?_,Ext.called A.base q,A.called q⟩
  ·unfold execOp;rw[K];refine eI ?_;rw[N];exact Lib.run_convert_string_bytes w m dst e b Q M S
  ·have t:(bytesRow b).length=b.size:=by simp[bytesRow]
   have H:=grownCap_ge w b.size 0 e;have F:grownCap w b.size 0 e≤maxLen:=grownCap_le_maxLen w b.size 0 e (by unfold maxLen;omega);unfold maxLen at F;have G:(bytesRow b).flatten=b.data.toList.map fun x=>D.sc (.int .u8 x.toNat):=by
    unfold bytesRow
    induction b.data.toList with
    |nil=>rfl
    |cons y l U=>simp[U]
   refine RD.sl_mk (us:=b.data.toList.map fun x=>Value.int .u8 x.toNat) t (fun r L=> ?_) H a8 ?_ fun _=>⟨_,0,rfl,fun i u f=> ?_⟩
   ·unfold bytesRow at L;obtain⟨y,_,rfl⟩:=bR.1 L;rfl
   ·rw[G];refine⟨by simp,fun u f=> ?_,fun i u d f n=> ?_⟩
    ·obtain⟨y,_,rfl⟩:=bR.1 f;rfl
    ·rw[dL]at f n;obtain⟨y,C,rfl⟩:=dt.1 f;rw[C]at n;cases n;exact .sc _
   ·rw[dL]at f;obtain⟨y,C,rfl⟩:=dt.1 f;have hi:=(b9.1 C).1;have c:=Lib.bytesWorld_cell w e b i (by simpa using hi);rw[List.getD_eq_getElem?_getD,C]at c;rw[aw];refine⟨?_,c⟩;show i<(if w.heap.size<w.heap.size then k.I w.heap.size else cellsIn (Lib.bytesWorld w e b) w.heap.size);rw[if_neg (Nat.lt_irrefl _)]
    exact vi c
 ·cases g
theorem VV{m dst e:TypeId}{p:Operand}{x:X}(S:o.op= .convert m dst p)(Z:P.underlying m=some .string)(V:P.underlying dst=some (.slice e))(hu:P.underlying e=some (.int .u8))(hx:cX P m p=some x)(h:(CI.s2o e x).sem fr s=some (d,s')):ix LL P o fr s d s':=by
 have hp:p∈o.op.operands:=by rw[S];simp[Op.operands]
 obtain⟨b,hb,c⟩:=aT (show((x.ev fr).bind AV.str?).bind (Ee s e)=some (d,s')from h);obtain⟨xv,Q,H⟩:=aT hb;unfold Ee at c;split at c
 ·rename_i a0;obtain⟨rfl,rfl⟩:=eF (aJ c);refine⟨_,rfl,fun s2 _ R=> ?_⟩;intro B k a w G A;have W:=(bI G hp hx Q).sc_eq (AV.str_sc H);have J:Below w.heap.size w (Lib.bytesWorld w e b):=⟨rfl,rfl,rfl,by rw[Lib.bytesWorld_size];omega,fun j Y=>Lib.bytesWorld_at_old w e b j Y⟩
  have n:(bytesRow b).length=b.size:=by simp[bytesRow]
  have M:=grownCap_ge w b.size 0 e;have K:grownCap w b.size 0 e≤maxLen:=grownCap_le_maxLen w b.size 0 e (by unfold maxLen;omega);have t:b.data.size=b.size:=rfl;have L:(bytesRow b).flatten=b.data.toList.map fun x=>D.sc (.int .u8 x.toNat):=by
   unfold bytesRow
   induction b.data.toList with
   |nil=>rfl
   |cons y l ih=>simp[ih]
  have q:dO (Lib.bytesWorld w e b) B e 1 (.slice (some ⟨w.heap.size,0,none⟩) b.size (grownCap w b.size 0 e)) b.size (b.data.toList.map fun x=>Value.int .u8 x.toNat):=by
   refine⟨by simp[t],.inr ⟨w.heap.size,_,_,_,rfl,A.base,Lib.bytesWorld_at_new w e b,M,K,?_,?_,.inr (bk _)⟩⟩
   ·simp[Lib.bytesCells,t];omega
   ·simp only[Lib.bytesCells,pO,Array.toList_map,aF];rw[wm (by simp[t])]
  have N:w.heap.size<(Lib.bytesWorld w e b).heap.size:=by rw[Lib.bytesWorld_size];omega
  have U: ∀C,C<w.heap.size→dG k.I w.heap.size (b.size*1) C=k.I C:=fun C E=>gW _ _ a8;obtain⟨F,O⟩:=A.newAt J U R (.row (.slice (some ⟨w.heap.size,0,none⟩) b.size (grownCap w b.size 0 e)) b.size) (.row e 1 b.size) (fun C E=>by cases E;exact⟨bk _,N⟩) fun _=>⟨rfl,⟨_,q⟩,fun g hg=>by cases hg;exact fI ..⟩
  refine dX.value (v:= .slice (some ⟨w.heap.size,0,none⟩) b.size (grownCap w b.size 0 e)) (w':=Lib.bytesWorld w e b) ?_ ⟨_,.tsl ?_ ⟨_,b.size,pe A R _,by rw[n];exact bk _,fun _=>rfl⟩,F,O⟩
  ·unfold execOp;rw[S];refine eI ?_;rw[W];exact Lib.run_convert_string_bytes w m dst e b Z V hu
  ·refine tR q ?_ n (fun r T=> ?_) fun g hg=> ?_
   ·rw[L];refine⟨by simp,fun u f=> ?_,fun i u d f z=> ?_⟩
    ·obtain⟨y,_,rfl⟩:=bR.1 f;rfl
    ·rw[dL]at f z;obtain⟨y,hy,rfl⟩:=dt.1 f;rw[hy]at z;cases z;exact .sc _
   ·unfold bytesRow at T;obtain⟨y,_,rfl⟩:=bR.1 T;rfl
   ·cases hg;exact sf (fI ..).symm
 ·cases c
theorem EZ{k:aU}{w:World}: ∀{us:List Value} {cs:List AV} {l:List UInt8},bO k w us cs→gH cs=some l→us=l.map fun x=>Value.int .u8 x.toNat
 |[],[],l,_,h=>by simp[gH]at h;subst h;rfl
 |[],_::_,_,h,_=>by simp[bO]at h
 |_::_,[],_,h,_=>by simp[bO]at h
 |u::us,c::cs,l,h,hl=>by
  obtain⟨y,a,j⟩:=aT (show(qO c).bind (fun b=>(gH cs).map (b:: ·))=some l from hl);obtain⟨l',m,rfl⟩:=bB j;have o:=EZ (us:=us) (cs:=cs) (l:=l') ⟨by simpa using h.1,fun v d=>h.2.1 v (by simp[d]),fun i v e d hc=>h.2.2 (i+1) v e (by simpa using d) (by simpa using hc)⟩ m;have f:=h.2.2 0 u c rfl rfl;unfold qO at a;split at a
  ·rename_i n;split at a
   ·rename_i p;obtain rfl:=aJ a;have g:=f.d_inv;cases g;rw[o,bV];congr 2;have:(UInt8.ofNat n.toNat).toNat=n.toNat:=by
     rw[UInt8.toNat_ofNat'];omega
    rw[this];omega
   ·cases a
  ·cases a
theorem a2u{v:AV}{b:ByteArray}(h:rI (gb s v) v=some b): ∃p,gQ s 1 v=some p∧gH p.2=some b.data.toList:=by
 unfold rI at h;split at h
 ·rename_i id off n sz;split at h
  ·rename_i e;subst e;obtain⟨cs,i,a⟩:=aT h;split at a
   ·rename_i o;obtain⟨l,f,rfl⟩:=bB a;refine⟨(n,(cs.drop off).take n),?_,by simpa using f⟩;have c:mY (s[id]?)=some cs:=i;simp only[gQ,c,dP];rw[if_pos ⟨trivial,by omega⟩];simp
   ·cases a
  ·cases h
 ·rename_i id n sz;split at h
  ·rename_i e;subst e;obtain⟨p,hp,a⟩:=aT h;split at a
   ·rename_i g;obtain⟨l,f,rfl⟩:=bB a;refine⟨(n,p.2),?_,by simpa using f⟩;have j:gx n (s[id]?)=some p:=hp;simp only[gQ,j,dP];rw[if_pos ⟨trivial,g⟩]
   ·cases a
  ·cases h
 ·rename_i g a;obtain⟨rows,k,m⟩:=aT h;obtain⟨l,f,rfl⟩:=bB m;refine⟨(rows.length,rows.flatten.map .d),?_,by simpa using f⟩;unfold gQ;split
  ·exact absurd rfl (a _ _ _)
  ·simp[slA]at k
  ·exact absurd rfl (g _ _ _ _)
  ·rw[k];rfl
theorem foldl_push: ∀(l:List UInt8) (b:ByteArray),(l.map fun x=>((x.toNat:Nat):Int)).foldl (fun r n=>r.push (UInt8.ofNat n.toNat)) b=⟨b.data++l.toArray⟩
 |[],b=>by simp
 |x::l,b=>by
  rw[bV,gD,foldl_push l];simp[ByteArray.push]
theorem Vq{i dst e:TypeId}{p:Operand}{x:X}(F:o.op= .convert i dst p)(G:P.underlying i=some (.slice e))(D:P.underlying dst=some .string)(H:P.underlying e=some (.int .u8))(L:cX P i p=some x)(h:(CI.b2s x).sem fr s=some (d,s')):bu LL P o fr s d s':=by
 have hp:p∈o.op.operands:=by rw[F];simp[Op.operands]
 obtain⟨hc,rfl⟩:=dK h;obtain⟨v,K,u⟩:=aT hc;obtain⟨b,hb,rfl⟩:=bB u;obtain⟨m,hm,t⟩:=a2u hb;refine bu.pure fun B k a w q z=>⟨_,?_,.d (RD.sc _)⟩
 obtain⟨us,r,A⟩:=Ei z (bI q hp L K) hm;have g:=EZ A t;unfold execOp;rw[F];refine eI ?_;obtain⟨E,⟨c,n,I⟩|⟨C,c,n,l⟩⟩:=r
 ·rw[n];have:b.data.toList=[]:=by
   have:us=[]:=fK (by rw[E,I]);rw[this]at g;exact List.map_eq_nil_iff.1 g.symm
  rw[run_convert_bytes_nil w i e G H _ c dst D];congr 2;cases b with|mk d=>simp at this;subst this;rfl
 ·rw[n,run_convert_bytes_string w i dst e _ _ c G H D];have f:=run_loadCells_list (P:=P) w C us (fun j y J=>l j y J);rw[E,aF]at f;rw[g]at f;rw[run_bytesToString w C m.1 c (b.data.toList.map fun x=>((x.toNat:Nat):Int)) (by rw[f,nJ];rfl),foldl_push];congr 2;cases b with|mk d=>simp[ByteArray.empty,ByteArray.emptyWithCapacity];rfl
end
end Go.Bb
namespace Go.Bb
open Go Go.RowKit Go.Ab Go.Proofs.Lg
section
variable {LL:Nat→Code→CC→Prop} {P:Program} {o:Oper} {fr:Fr} {s s':List aa} {d:AV}
theorem xn(kt:TypeId)(us:List Value):gK (cZ P kt) us=valC P kt us:=by
 unfold gK cZ valC;cases b:P.underlying kt with
 |none=>rfl
 |some a=>cases a<;>rfl
def mA:Value→Bool
 | .int _ _=>true
 | .string _=>true
 | .bool _=>true
 |_=>false
theorem zR: ∀{ks:List SK} {us vs:List Value} {b:Bool},bx ks us vs=some b→(∀u∈us,mA u=true)∧ ∀v∈vs,mA v=true
 |[],[],[],_,_=>by simp
 | .i::ks,.int k a::us,.int k' c::vs,b,h=>by
  unfold bx at h;split at h
  ·obtain⟨r,d,_⟩:=bB h;have:=zR d;exact⟨by simpa[mA]using this.1,by simpa[mA]using this.2⟩
  ·cases h
 | .s::ks,.string a::us,.string c::vs,b,h=>by
  unfold bx at h;obtain⟨r,d,_⟩:=bB h;have:=zR d;exact⟨by simpa[mA]using this.1,by simpa[mA]using this.2⟩
 | .b::ks,.bool a::us,.bool c::vs,b,h=>by
  unfold bx at h;obtain⟨r,d,_⟩:=bB h;have:=zR d;exact⟨by simpa[mA]using this.1,by simpa[mA]using this.2⟩
 |[],_::_,_,_,h=>by simp[bx]at h
 |[],[],_::_,_,h=>by simp[bx]at h
 |k::ks,[],_,_,h=>by cases k<;>simp[bx]at h
 |k::ks,u::us,[],_,h=>by cases k<;>simp[bx]at h
theorem zS: ∀{ks:List SK} {us vs:List Value},bx ks us vs=some true→us=vs
 |[],[],[],_=>rfl
 | .i::ks,.int k a::us,.int k' c::vs,h=>by
  unfold bx at h;split at h
  ·rename_i hk;subst hk;obtain⟨r,d,hb⟩:=bB h;simp only[er,beq_iff_eq]at hb;obtain⟨rfl,rfl⟩:=hb;rw[zS d]
  ·cases h
 | .s::ks,.string a::us,.string c::vs,h=>by
  unfold bx at h;obtain⟨r,d,hb⟩:=bB h;simp only[er,beq_iff_eq]at hb;obtain⟨ha,rfl⟩:=hb;rw[ByteArray.toList_eq,ByteArray.toList_eq]at ha;rw[zS d,ByteArray.ext (Array.toList_inj.mp ha)]
 | .b::ks,.bool a::us,.bool c::vs,h=>by
  unfold bx at h;obtain⟨r,d,hb⟩:=bB h;simp only[er,beq_iff_eq]at hb;obtain⟨rfl,rfl⟩:=hb;rw[zS d]
 |[],_::_,_,h=>by simp[bx]at h
 |[],[],_::_,h=>by simp[bx]at h
 |k::ks,[],_,h=>by cases k<;>simp[bx]at h
 |k::ks,u::us,[],h=>by cases k<;>simp[bx]at h
theorem Ou(n:Nat){u:Value}(h:mA u=true):Instr.sameBits n u u=true:=by
 cases u<;>simp[mA]at h<;>cases n<;>simp[Instr.sameBits,beq_toListBytes]
theorem a2U{a:Bool}{us:List Value}(h: ∀u∈us,mA u=true)(hne:a=false→us≠[]):Instr.sameBits 10000 (gK a us) (gK a us)=true:=by
 cases a with
 |true=>
  show Instr.sameBits (9999+1) (.agg us.toArray) (.agg us.toArray)=true;rw[Instr.sameBits];simp only[beq_self_eq_true,s5,jX];rintro⟨x,y⟩ hxy;have:x=y∧x∈us:=by
   have b:(us.zip us)=us.map fun u=>(u,u):=by
    clear h hne hxy
    induction us with
    |nil=>rfl
    |cons u us f=>simp[f]
   simp only[b]at hxy;obtain⟨u,d,c⟩:=bR.1 hxy;cases c;exact⟨rfl,d⟩
  obtain⟨rfl,e⟩:=this;exact Ou _ (h x e)
 |false=>
  cases us with
  |nil=>exact absurd rfl (hne rfl)
  |cons u us=>exact Ou _ (h u (by simp))
theorem sr{em:Bool}{w:World}: ∀(d m:Nat) (t:TypeId) (ks:List SK),d≤m→dy P d t=some ks→ ∀us:List Value,us.length=ks.length→(Instr.checkKey em m t (valC P t us)).run P w= .ok () w
 |0,_,_,_,_,h=>by simp[dy]at h
 |d+1,0,_,_,hm,_=>by omega
 |d+1,m+1,t,ks,hm,h=>by
  intro us S;have L: ∀E v,P.underlying t=some E→(match E with| .int _| .string| .bool=>True|_=>False)→(Instr.checkKey em (m+1) t v).run P w= .ok () w:=fun E v b T=>by
   unfold Instr.checkKey;simp only[bF,run_underlying b,bL];cases E<;>first|exact T.elim|rfl
  unfold dy at h;split at h
  ·rename_i q b;exact L _ _ b trivial
  ·rename_i b;exact L _ _ b trivial
  ·rename_i b;exact L _ _ b trivial
  ·rename_i n e b;have I:valC P t us= .agg us.toArray:=by unfold valC;rw[b]
   rw[I];split at h
   ·rename_i k G;split at h
    ·rename_i hc;obtain rfl:=aJ h;obtain⟨V,u⟩:=wq.1 hc.2.2;obtain⟨_,z,B,_⟩:=KX G;rw[u]at z;cases z;have Q:(List.replicate n k).flatten.length=n*k.length:=by simp
     unfold Instr.checkKey;simp only[bF,run_underlying b,bL];simp only[Std.Legacy.Range.forIn_eq_forIn_range',Std.Legacy.Range.size,Nat.sub_zero,Nat.add_one_sub_one,Nat.div_one];have key: ∀(C:List Nat),(∀i∈C,i<n)→(forIn C PUnit.unit (fun i _=>do
       let x ←sizeOf e;let x ←part e us.toArray (i*x)
       Instr.checkKey em m e x
       pure (ForInStep.yield PUnit.unit)):Sem PUnit).run P w= .ok PUnit.unit w:=by
      intro C
      induction C with
      |nil=>intro _;simp
      |cons i C J=>
       intro hi;have H:=hi i (by simp);have l:i*k.length+k.length≤us.toArray.size:=by
        have:(i+1)*k.length≤n*k.length:=iP _ H;rw[fe,sg]at this;simp;omega
       have p:=vL (w:=w) G (cs:=us.toArray) (off:=i*k.length) l;have c:=sr (em:=em) (w:=w) d m e k a8 G ((us.toArray.toList.drop (i*k.length)).take k.length) (by simp;simp at l;omega);simp only[List.forIn_cons,bF,sizeOf,typeInfo,run_program,u,bZ,bL,B,p,c];have:=J fun j R=>hi j (by simp[R])
       simpa only[bF,sizeOf,typeInfo,run_program,u,bZ,bL,B]using this
     have K:=key (List.range' 0 n) (fun i hi=>by simp at hi;omega);rw[K];rfl
    ·cases h
   ·cases h
  ·rename_i N b;have I:valC P t us= .agg us.toArray:=by unfold valC;rw[b]
   rw[I];split at h
   ·rename_i U;split at h
    ·rename_i a hk;split at h
     ·rename_i hc;obtain rfl:=aJ h;unfold Instr.checkKey;simp only[bF,run_underlying b,bL];rw[←Array.forIn_toList];have key: ∀(r:List Field) (a:List (List SK)) (off:Nat),r.mapM (fun f=>dy P d f.type)=some a→dy.offsOk r a off=true→off+a.flatten.length≤us.length→
        (forIn r PUnit.unit (fun f _=>do
         if f.name≠ "_" then do
          let x ←part f.type us.toArray f.offset
          Instr.checkKey em m f.type x
          pure (ForInStep.yield PUnit.unit)
         else pure (ForInStep.yield PUnit.unit)):Sem PUnit).run P w= .ok PUnit.unit w:=by
       intro r
       induction r with
       |nil=>intro _ _ _ _ _;simp
       |cons f r J=>
        intro a off s F O;rw[List.mapM_cons]at s;cases g:dy P d f.type with
        |none=>rw[g]at s;cases s
        |some D=>
         cases y:r.mapM fun f=>dy P d f.type with
         |none=>rw[g,y]at s;cases s
         |some o=>
          rw[g,y]at s;obtain rfl:D::o=a:=aJ s;simp only[dy.offsOk,er,decide_eq_true_eq]at F;rw[fL,aR]at O;have p:=vL (w:=w) g (cs:=us.toArray) (off:=off) (by simp;omega);have c:=sr (em:=em) (w:=w) d m f.type D a8 g ((us.toArray.toList.drop off).take D.length) (by simp;omega)
          have M:=J o (off+D.length) y F.2 a8;by_cases A:f.name≠ "_"
          ·simp only[List.forIn_cons,bF,if_pos A,F.1,p,c,bL,bZ];exact M
          ·simp only[List.forIn_cons,bF,if_neg A,bL,bZ];exact M
      have K:=key N.toList a 0 hk hc.2.1 (by rw[S];omega);rw[K];rfl
     ·cases h
    ·cases h
   ·cases h
  ·cases h
def s7(a:Bool)(k:aU)(w:World)(es:List (List Value×AV))(l:List MapEntry):Prop:=
 l.length=es.length∧ ∀(i:Nat) (e:MapEntry) (x:List Value×AV),l[i]?=some e→es[i]?=some x→e.key=gK a x.1∧RA k w e.val x.2
theorem s7.tail{a:Bool}{k:aU}{w:World}{x:List Value×AV}{es:List (List Value×AV)}{e:MapEntry}{l:List MapEntry}(h:s7 a k w (x::es) (e::l)):s7 a k w es l:=
 ⟨by have:=h.1;simpa using this,fun i b f c d=>h.2 (i+1) b f c d⟩
def ud(k:aU)(w:World)(i0:Nat)(es:List (List Value×AV))(l:List MapEntry):Option (Nat×AV)→Option (Nat×Value)→Prop
 |none,none=>True
 |some (i,x),some (j,v)=>i=j∧i0≤i∧RA k w v x∧ ∃e q,l[i-i0]?=some e∧es[i-i0]?=some (q,x)∧e.val=v
 |_,_=>False
theorem ud.step{k:aU}{w:World}{i0:Nat}{x:List Value×AV}{es:List (List Value×AV)}{e:MapEntry}{l:List MapEntry}: ∀{r:Option (Nat×AV)} {q:Option (Nat×Value)},ud k w (i0+1) es l r q→ud k w i0 (x::es) (e::l) r q
 |none,none,_=>trivial
 |some (i,y),some (j,v),h=>by
  obtain⟨rfl,g,b,a,q,c,d,f⟩:=h;have hi:i-i0=(i-(i0+1))+1:=by omega
  exact⟨rfl,by omega,b,a,q,by rw[hi];exact c,by rw[hi];exact d,f⟩
 |none,some _,h=>h.elim
 |some _,none,h=>h.elim
theorem JY{ks:List SK}{kt:TypeId}(hk:dy P 12 kt=some ks){k:aU}{w:World}{key:List Value}: ∀(es:List (List Value×AV)) (l:List MapEntry) (i:Nat) (r:Option (Nat×AV)),s7 (cZ P kt) k w es l→e9 ks key es i=some r→
  ∃q,(Instr.findAsking kt (valC P kt key) l i).run P w= .ok q w∧ud k w i es l r q
 |[],[],i,r,_,h=>by
  simp[e9]at h;subst h;exact⟨none,by simp[Instr.findAsking],trivial⟩
 |[],e::l,i,r,he,_=>by have:=he.1;simp at this
 |x::es,[],i,r,he,_=>by have:=he.1;simp at this
 |x::es,e::l,i,r,he,h=>by
  obtain⟨b,hb,a⟩:=aT (show((bx ks key x.1).bind fun b=>if b=true then some (some (i,x.2))else e9 ks key es (i+1))=some r from h);obtain⟨f,g⟩:=he.2 0 e x rfl rfl;have j:(Op.equal kt (valC P kt key) e.key).run P w= .ok b w:=by
   rw[f,xn];exact zV 12 10000 kt ks a8 hk w key x.1 b hb
  unfold Instr.findAsking;simp only[bF,j,bL];cases b with
  |true=>
   simp only[if_true]at a⊢;obtain rfl:=aJ a;exact⟨some (i,e.val),rfl,rfl,bk _,g,e,x.1,by simp,by simp,rfl⟩
  |false=>
   simp only[jU,if_false]at a⊢;obtain⟨q,c,d⟩:=JY hk es l (i+1) r he.tail a;exact⟨q,c,d.step⟩
theorem K8{ks:List SK}{kt:TypeId}{g:TypeDesc}(m:P.underlying kt=some g)(hk:dy P 12 kt=some ks){k:aU}{w:World}{key:List Value}: ∀(es:List (List Value×AV)) (l:List MapEntry) (i:Nat) (r:Option (Nat×AV)),s7 (cZ P kt) k w es l→e9 ks key es i=some r→
  Instr.findNow g (valC P kt key) l i=none∨ ∃q,Instr.findNow g (valC P kt key) l i=some q∧ud k w i es l r q
 |[],[],i,r,_,h=>by
  simp[e9]at h;subst h;exact .inr ⟨none,rfl,trivial⟩
 |[],e::l,i,r,he,_=>by have:=he.1;simp at this
 |x::es,[],i,r,he,_=>by have:=he.1;simp at this
 |x::es,e::l,i,r,he,h=>by
  obtain⟨b,hb,a⟩:=aT (show((bx ks key x.1).bind fun b=>if b=true then some (some (i,x.2))else e9 ks key es (i+1))=some r from h);obtain⟨s,t⟩:=he.2 0 e x rfl rfl;have j:Instr.sameNow g (valC P kt key) e.key=none∨Instr.sameNow g (valC P kt key) e.key=some b:=by
   rw[s,xn];unfold dy at hk;rw[m]at hk;cases g with
   |int q=>
    dsimp only at hk;split at hk
    ·obtain rfl:=aJ hk;obtain⟨o,f⟩:=qZ hb
     match key,o,hb with
     |[u],_,hb=>
      generalize n:x.1=x1 at hb f
      match x1,f with
      |[v],_=>
       unfold bx at hb;split at hb<;>first|(cases hb;done)|skip
       all_goals first
        |(rename_i a c d;cases a;done)
        |skip
       rename_i a c d;cases a;cases c;cases d;split at hb
       ·rename_i p;subst p;simp[bx]at hb;right;subst hb;unfold valC;rw[m];simp[Instr.sameNow]
       ·cases hb
    ·cases hk
   |string=>
    dsimp only at hk;split at hk
    ·obtain rfl:=aJ hk;obtain⟨o,f⟩:=qZ hb
     match key,o,hb with
     |[u],_,hb=>
      generalize n:x.1=x1 at hb f
      match x1,f with
      |[v],_=>
       unfold bx at hb;split at hb<;>first|(cases hb;done)|skip
       all_goals first
        |(rename_i a c d;cases a;done)
        |skip
       rename_i a c d;cases a;cases c;cases d;simp[bx]at hb;right;subst hb;unfold valC;rw[m];simp[Instr.sameNow,beq_toListBytes]
    ·cases hk
   |bool=>
    dsimp only at hk;split at hk
    ·obtain rfl:=aJ hk;obtain⟨o,f⟩:=qZ hb
     match key,o,hb with
     |[u],_,hb=>
      generalize n:x.1=x1 at hb f
      match x1,f with
      |[v],_=>
       unfold bx at hb;split at hb<;>first|(cases hb;done)|skip
       all_goals first
        |(rename_i a c d;cases a;done)
        |skip
       rename_i a c d;cases a;cases c;cases d;simp[bx]at hb;right;subst hb;unfold valC;rw[m];simp[Instr.sameNow]
    ·cases hk
   |_=>exact .inl rfl
  unfold Instr.findNow;rcases j with j|j
  ·rw[j];exact .inl rfl
  ·rw[j];cases b with
   |true=>
    simp only[if_true]at a;obtain rfl:=aJ a;exact .inr ⟨_,rfl,rfl,bk _,t,e,x.1,by simp,by simp,rfl⟩
   |false=>
    simp only[jU,if_false]at a;rcases K8 m hk es l (i+1) r he.tail a with c|⟨q,c,d⟩
    ·exact .inl c
    ·exact .inr ⟨q,c,d.step⟩
theorem xb{ks:List SK}{kt:TypeId}(hk:dy P 12 kt=some ks){k:aU}{w:World}{key:List Value}{es:List (List Value×AV)}{l:List MapEntry}{r:Option (Nat×AV)}(b:s7 (cZ P kt) k w es l)(h:e9 ks key es 0=some r):
  ∃q,(Instr.findKey kt (valC P kt key) l).run P w= .ok q w∧ud k w 0 es l r q:=by
 cases a:P.underlying kt with
 |none=>unfold dy at hk;rw[a]at hk;cases hk
 |some c=>
  unfold Instr.findKey;simp only[bF,run_underlying a,bL];rcases K8 a hk es l 0 r b h with h1|⟨q,h1,h2⟩
  ·rw[h1];exact JY hk es l 0 r b h
  ·rw[h1];exact⟨q,rfl,h2⟩
end
end Go.Bb
namespace Go.Bb
open Go Go.RowKit Go.Ab Go.Proofs.Lg
section
variable {LL:Nat→Code→CC→Prop} {P:Program} {o:Oper} {fr:Fr} {s s':List aa} {d:AV}
theorem RA.keyK_eq{k:aU}{w:World}{v:Value}{x:AV}{b:Bool}{ks:List SK}{us:List Value}{t:TypeId}(h:RA k w v x)(e:x.keyK b ks=some us)(d:b=cZ P t):v=valC P t us∧us.length=ks.length:=by
 obtain⟨us',c,a⟩:=aT e;split at a
 ·obtain rfl:=aJ a;exact⟨(h.key_eq c d).1,by assumption⟩
 ·cases a
theorem kV.ents{c:Bool}{k:aU}{w:World}{es:List (List Value×AV)}{a:Array MapEntry}{b:Nat}(h:kV c k w es a b):s7 c k w es a.toList:=
 ⟨by simpa using h.1,fun i e x g j=>let⟨d,f,_⟩:=h.2.2 i e x (by simpa using g) j;⟨d,f⟩⟩
theorem tD{B:Nat}{k:aU}{w:World}(d:St LL B k s w){id b:Nat}{f:Bool}{es es':List (List Value×AV)}{a ents':Array MapEntry}{g clk':Nat}(r:s[id]?=some (.map f es))(hb:k.own[id]?=some (.blk b))(m:w.heap[b]?=some (.map a g))(p:k.I b=0)
  (hm:Mono k w k (w.putObj b (.map ents' clk'))→kV f k (w.putObj b (.map ents' clk')) es' ents' clk'):Mono k w k (w.putObj b (.map ents' clk'))∧Ext B k w k (w.putObj b (.map ents' clk'))∧St LL B k (s.set id (.map f es')) (w.putObj b (.map ents' clk')):=by
 have l:=sF m;have c:=d.lies id _ b hb rfl;have hk:iz k.I w k.I (w.putObj b (.map ents' clk')):=fun n q u t hc=>⟨t,by
  have hne:n≠b:=by rintro rfl;unfold World.cell? at hc;rw[m]at hc;cases hc
  exact(uy (w:=w) (World.putObj_heap_other hne)).trans hc⟩
 have i:Below B w (w.putObj b (.map ents' clk')):=⟨rfl,rfl,rfl,by simp,fun j v=>World.putObj_heap_other a8⟩
 refine⟨rn hk,d.upd (k':=k) hb (.map f es') (ql hb) (dJ.refl _) hk i (fun o h=>by cases h;exact⟨.inl rfl,by simpa using c.2,c.1⟩)
  (fun o _ hne=>⟨World.putObj_heap_other (fun e=>hne (by rw[e];rfl)),rfl⟩) ⟨ents',clk',World.putObj_heap_same l,hm (rn hk),p⟩⟩
theorem VL{t kt et:TypeId}(q:o.op= .makeMap t none)(h:(CI.mkm (cZ P kt)).sem fr s=some (d,s')):ix LL P o fr s d s':=by
 obtain⟨rfl,rfl⟩:=eF (aJ (show some (AV.mp s.length,s++[aa.map (cZ P kt) []])=some (d,s')from h));refine⟨_,rfl,fun s2 _ m=> ?_⟩;intro B k a w n c;have hb:Below w.heap.size w (w.alloc (.map #[] 0)):=(Below.refl _ _).alloc (bk _) _;have l:(w.alloc (.map #[] 0)).heap[w.heap.size]?=some (.map #[] 0):=heap_alloc_new w _;have g:=sF l
 have p: ∀b,b<w.heap.size→dG k.I w.heap.size 0 b=k.I b:=fun b hb=>gW _ _ a8;obtain⟨f,j⟩:=c.newAt hb p m (.blk w.heap.size) (.map (cZ P kt) []) (fun b hb=>by cases hb;exact⟨bk _,g⟩) fun _=>⟨#[],0,l,⟨rfl,rfl,fun i e x f _=>by simp at f⟩,fI ..⟩
 refine dX.value (v:= .map (some w.heap.size)) ?_ ⟨_,.mp (pe c m _),f,j⟩;unfold execOp;rw[q];refine eI ?_;simp only[Instr.makeMap,pT,bF,bZ,run_newObj,bL];rfl
theorem VQ{x:Operand}{e sz:Nat}{v:Value}(f:o.op= .move x∨o.op= .assign x)(p:x= .const v)(j:Ga v=true)(h:(CI.nlr e sz).sem fr s=some (d,s')):ix LL P o fr s d s':=by
 obtain⟨rfl,rfl⟩:=eF (aJ (show some (AV.tsl s.length sz [],s++[aa.row e sz 0])=some (d,s')from h));obtain rfl:v= .slice none 0 0:=by
  unfold Ga at j;split at j
  ·rfl
  ·cases j
 refine⟨_,rfl,fun s2 _ l=> ?_⟩;intro B k a w m c;obtain⟨n,i⟩:=c.newAt (Below.refl _ _) (I':=k.I) (fun b _=>rfl) l (.row (.slice none 0 0) 0) (.row e sz 0) (fun b hb=>by cases hb) fun _=>⟨rfl,⟨[],by simp,.inl ⟨rfl,rfl⟩⟩,fun g hg=>by cases hg⟩
 refine dX.value (v:= .slice none 0 0) ?_ ⟨_,.tsl (RD.sl_mk (us:=[]) rfl (by simp) a8 a8 ⟨rfl,by simp,by simp⟩ (by simp)) ⟨_,0,pe c l _,bk _,fun _=>rfl⟩,n,i⟩;subst p;unfold execOp;rcases f with f|f<;>rw[f]<;>rfl
theorem PK{e:TypeId}{z:AV}(h:w6 P e=some z)(k:aU)(w:World): ∃v,(zeroValue e).run P w= .ok v w∧ ∀k w,RA k w v z:=by
 unfold w6 at h;split at h
 ·rename_i i hi;split at h
  ·rename_i v a;exact⟨v,by simp[zeroValue,typeInfo,hi,a],fun k w=>zm h k w⟩
  ·cases h
 ·cases h
theorem VI{t kt et:TypeId}{ok:Bool}{p q:Operand}{m x:X}{ks:List SK}{z:AV}(Z:o.op= .lookup t p q ok)(C:P.underlying t=some (.map kt et))(hm:cX P t p=some m)(hx:cX P kt q=some x)(hk:dy P 12 kt=some ks)(hz:w6 P et=some z)
  (h:(CI.lkp (cZ P kt) ks z ok m x).sem fr s=some (d,s')):bu LL P o fr s d s':=by
 have hp:p∈o.op.operands:=by rw[Z];simp[Op.operands]
 have hq:q∈o.op.operands:=by rw[Z];simp[Op.operands]
 obtain⟨hc,rfl⟩:=dK h;obtain⟨key,K,T⟩:=aT hc;obtain⟨kv,W,H⟩:=aT K;obtain⟨mv,Y,J⟩:=aT T;refine bu.pure fun B k a w F a1=> ?_;obtain⟨D,hl⟩:=(bI F hq hx W).keyK_eq (P:=P) (t:=kt) H rfl;obtain⟨zv,L,M⟩:=PK hz k w;have hr:=bI F hp hm Y
 have G: ∀(v:Value) (N:Bool) (O:AV),RA k w v O→(Instr.lookup t (a.eval p) (a.eval q) ok).run P w= .ok (if ok then .tuple #[v,.bool N]else v) w→d=(if ok then .tup [O,qN N]else O)→
   ∃v,(execOp a.eval o).run P w= .ok (.value v) w∧RA k w v d:=fun v N O h1 S h3=>by
  refine⟨_,by unfold execOp;rw[Z];exact eI S,?_⟩;subst h3;cases ok with
  |false=>exact h1
  |true=>
   refine .tup (us:=[v,.bool N]) rfl fun i u c C hc=> ?_
   match i with
   |0=>simp at C hc;subst C;subst hc;exact h1
   |1=>simp at C hc;subst C;subst hc;exact .d (RD.sc _)
   |i+2=>simp at C
 unfold qo at J;split at J
 ·rename_i id;obtain⟨es,V,U⟩:=aT J;obtain⟨r,a0,rfl⟩:=bB U;obtain⟨b,hb,A⟩:=hr.mp_inv;obtain⟨b',I,Q,g1,g2,g3,_⟩:=a1.map (xy V);rw[hb]at g1;cases g1;obtain⟨R,f,g⟩:=xb hk g3.ents a0;have n: ∀em,(Instr.checkKey em 10000 kt (a.eval q)).run P w= .ok () w:=fun em=>by rw[D];exact sr 12 10000 kt ks a8 hk key hl
  rw[←D]at f;have E:(getObj b).run P w= .ok (.map I Q) w:=by simp[getObj,Sem.run,g2]
  match r,R,g with
  |none,none,_=>
   refine G zv false z (M k w) ?_ rfl;simp only[Instr.lookup,bF,run_underlying C,bL,A,E,bZ,n,f,L]
  |some (i,y),some (j,v),g=>
   obtain⟨_,_,S,_⟩:=g;refine G v true y S ?_ rfl;simp only[Instr.lookup,bF,run_underlying C,bL,A,E,bZ,n,f]
 ·obtain rfl:=aJ J;have A:=hr.sc_eq (u:= .map none) rfl;have n: ∀em,(Instr.checkKey em 10000 kt (a.eval q)).run P w= .ok () w:=fun em=>by rw[D];exact sr 12 10000 kt ks a8 hk key hl
  obtain⟨R,f,g⟩:=xb (P:=P) (kt:=kt) (ks:=ks) (key:=key) (k:=k) (w:=w) (es:=[]) (l:=[]) (r:=none) hk ⟨rfl,fun i e x he _=>by simp at he⟩ rfl;rw[←D]at f;cases R with
  |none=>
   refine G zv false z (M k w) ?_ rfl;simp only[Instr.lookup,bF,run_underlying C,bL,A,bZ,n,f,L]
  |some _=>exact g.elim
 ·cases J
theorem FN{a:Bool}{us:List Value}{w:World}(h: ∀u∈us,mA u=true)(hne:a=false→us≠[]):(Instr.keyThatStays (gK a us) (gK a us)).run P w= .ok (gK a us) w:=by
 simp[Instr.keyThatStays,a2U h hne]
theorem FT{d:Nat}{t:TypeId}{ks:List SK}(h:dy P d t=some ks)(ha:cZ P t=false):ks≠[]:=by
 cases d with
 |zero=>simp[dy]at h
 |succ d=>
  unfold dy at h;unfold cZ at ha;split at h
  ·split at h
   ·obtain rfl:=aJ h;simp
   ·cases h
  ·split at h
   ·obtain rfl:=aJ h;simp
   ·cases h
  ·split at h
   ·obtain rfl:=aJ h;simp
   ·cases h
  ·rename_i a;rw[a]at ha;cases ha
  ·rename_i a;rw[a]at ha;cases ha
  ·cases h
theorem zY{ks:List SK}{key:List Value}: ∀(es:List (List Value×AV)) (i0 i:Nat) (y:AV),e9 ks key es i0=some (some (i,y))→i0≤i∧es[i-i0]?=some (key,y)∧ ∀u∈key,mA u=true
 |[],_,_,_,h=>by simp[e9]at h
 |x::es,i0,i,y,h=>by
  obtain⟨b,hb,a⟩:=aT (show((bx ks key x.1).bind fun b=>if b=true then some (some (i0,x.2))else e9 ks key es (i0+1))=_ from h);cases b with
  |true=>
   simp only[if_true]at a;obtain⟨rfl,rfl⟩:=eF (aJ (aJ a));refine⟨bk _,?_,(zR hb).1⟩;rw[zS hb];simp
  |false=>
   simp only[jU,if_false]at a;obtain⟨e,c,d⟩:=zY es (i0+1) i y a;have hi:i-i0=(i-(i0+1))+1:=by omega
   exact⟨by omega,by rw[hi];exact c,d⟩
theorem kV.set{m:Bool}{k:aU}{w:World}{es:List (List Value×AV)}{a:Array MapEntry}{c:Nat}(h:kV m k w es a c){i:Nat}{x:List Value×AV}{f:MapEntry→MapEntry}(s: ∀e y,a[i]?=some e→es[i]?=some y→(f e).key=gK m x.1∧RA k w (f e).val x.2∧(f e).born=e.born):
  kV m k w (es.set i x) (a.modify i f) c:=by
 obtain⟨q,r,p⟩:=h;refine⟨by simp[q],by simp[r],fun j e y d b=> ?_⟩;rw[w8]at d;rw[eP]at b;by_cases o:i=j
 ·subst o;rw[if_pos rfl]at d b;obtain⟨n,g,rfl⟩:=bB d;split at b
  ·obtain rfl:=aJ b;have l:i<es.length:=by assumption
   obtain⟨t,u,v⟩:=s n es[i] g (bN l);exact⟨t,u,by rw[v];exact(p i n es[i] g (bN l)).2.2⟩
  ·cases b
 ·rw[if_neg o]at d b;exact p j e y d b
theorem kV.push{d:Bool}{k:aU}{w:World}{es:List (List Value×AV)}{a:Array MapEntry}{b:Nat}(h:kV d k w es a b){x:List Value×AV}{v:Value}(m:RA k w v x.2):kV d k w (es++[x]) (a.push {key:=gK d x.1,val:=v,born:=b}) (b+1):=by
 obtain⟨f,g,i⟩:=h;refine⟨by simp[f],by simp[g],fun j e y c n=> ?_⟩;rcases qd n with hy2|⟨rfl,rfl⟩
 ·have l:=(b9.1 hy2).1;rw[Array.getElem?_push,if_neg a8]at c;exact i j e y c hy2
 ·rw[Array.getElem?_push,if_pos f.symm]at c;obtain rfl:=aJ c;exact⟨rfl,m,g⟩
theorem VO{t kt et:TypeId}{p q v:Operand}{m x y:X}{ks:List SK}(Q:o.op= .mapUpdate t p q v)(hu:P.underlying t=some (.map kt et))(hm:cX P t p=some m)(hx:cX P kt q=some x)(hy:cX P et v=some y)(hk:dy P 12 kt=some ks)
  (h:(CI.mup (cZ P kt) ks m x y).sem fr s=some (d,s')):bu LL P o fr s d s':=by
 have hp:p∈o.op.operands:=by rw[Q];simp[Op.operands]
 have hq:q∈o.op.operands:=by rw[Q];simp[Op.operands]
 have hv:v∈o.op.operands:=by rw[Q];simp[Op.operands]
 obtain⟨key,N,Z⟩:=aT (show(((x.ev fr).bind (AV.keyK (cZ P kt) ks)).bind fun key=>(y.ev fr).bind fun u=>(m.ev fr).bind fun p=>oA (cZ P kt) ks s key u p)=some (d,s')from h);obtain⟨kv,a4,H⟩:=aT N;obtain⟨yv,a6,a0⟩:=aT Z;obtain⟨mv,a5,W⟩:=aT a0;intro B k a w l J;obtain⟨K,hl⟩:=(bI l hq hx a4).keyK_eq (P:=P) (t:=kt) H rfl
 have hr:=bI l hp hm a5;have S:=bI l hv hy a6;have D: ∀em,(Instr.checkKey em 10000 kt (a.eval q)).run P w= .ok () w:=fun em=>by rw[K];exact sr 12 10000 kt ks a8 hk key hl
 unfold oA at W;split at W
 ·rename_i id;obtain⟨es,a3,a1⟩:=aT W;obtain⟨r,R,L⟩:=bB a1;obtain⟨rfl,rfl⟩:=eF L;have F:=xy a3;obtain⟨b,hb,O⟩:=hr.mp_inv;obtain⟨b',f,n,g1,U,V,gI⟩:=J.map F;rw[hb]at g1;cases g1;obtain⟨fq,z,E⟩:=xb hk V.ents R;rw[←K]at z;have A:(getObj b).run P w= .ok (.map f n) w:=by simp[getObj,Sem.run,U]
  have C: ∀ob,(setObj b ob).run P w= .ok () (w.putObj b ob):=fun ob=>by simp[setObj,Sem.run,U,World.putObj]
  have g:a.eval q=gK (cZ P kt) key:=by rw[K,xn]
  match r,fq,E with
  |none,none,_=>
   obtain⟨_,L,I⟩:=tD J (es':=es++[(key,yv)]) (ents':=f.push {key:=gK (cZ P kt) key,val:=a.eval v,born:=n}) (clk':=n+1) F hb U gI fun c=>(V.mono c).push (S.mono c);refine dX.skip ?_ ⟨k,RA.undf,L,I⟩;unfold execOp;rw[Q];refine vM ?_;simp only[Instr.mapUpdate,bF,run_underlying hu,bL,O,A,D,z,C];rw[g]
  |some (i,y'),some (j,v'),E=>
   obtain⟨rfl,_,h2,e,qk,h3,Y,h5⟩:=E;obtain⟨_,G,T⟩:=zY es 0 i y' R;simp only[Nat.sub_zero]at h3 Y G;rw[G]at Y;obtain⟨rfl,_⟩:=eF (aJ Y);have M:f[i]?=some e:=by simpa using h3
   have a2:e.key=gK (cZ P kt) key:=(V.2.2 i e _ M G).1;have hne:cZ P kt=false→key≠[]:=fun ha hn=>FT hk ha (by subst hn;exact fK hl.symm)
   obtain⟨_,L,I⟩:=tD J (es':=es.set i (key,yv)) (ents':=f.modify i fun e=>{e with key:=gK (cZ P kt) key,val:=a.eval v}) (clk':=n) F hb U gI fun c=>(V.mono c).set fun e' y2 _ _=>⟨rfl,S.mono c,rfl⟩
   refine dX.skip ?_ ⟨k,RA.undf,L,I⟩;unfold execOp;rw[Q];refine vM ?_;rw[g]at D z;simp only[Instr.mapUpdate,bF,run_underlying hu,bL,O,A,D,z,C,M,eZ,ek,a2,g,FN T hne]
 ·cases W
theorem VF{t kt et:TypeId}{p q v:Operand}{m x y:X}{ks:List SK}(Q:o.op= .insert t p q v)(hu:P.underlying t=some (.map kt et))(hm:cX P t p=some m)(hx:cX P kt q=some x)(hy:cX P et v=some y)(hk:dy P 12 kt=some ks)
  (h:(CI.mup (cZ P kt) ks m x y).sem fr s=some (d,s')):bu LL P o fr s d s':=by
 have hp:p∈o.op.operands:=by rw[Q];simp[Op.operands]
 have hq:q∈o.op.operands:=by rw[Q];simp[Op.operands]
 have hv:v∈o.op.operands:=by rw[Q];simp[Op.operands]
 obtain⟨key,N,Z⟩:=aT (show(((x.ev fr).bind (AV.keyK (cZ P kt) ks)).bind fun key=>(y.ev fr).bind fun u=>(m.ev fr).bind fun p=>oA (cZ P kt) ks s key u p)=some (d,s')from h);obtain⟨kv,a4,H⟩:=aT N;obtain⟨yv,a6,a0⟩:=aT Z;obtain⟨mv,a5,W⟩:=aT a0;intro B k a w l J;obtain⟨K,hl⟩:=(bI l hq hx a4).keyK_eq (P:=P) (t:=kt) H rfl
 have hr:=bI l hp hm a5;have S:=bI l hv hy a6;have D: ∀em,(Instr.checkKey em 10000 kt (a.eval q)).run P w= .ok () w:=fun em=>by rw[K];exact sr 12 10000 kt ks a8 hk key hl
 unfold oA at W;split at W
 ·rename_i id;obtain⟨es,a3,a1⟩:=aT W;obtain⟨r,R,L⟩:=bB a1;obtain⟨rfl,rfl⟩:=eF L;have F:=xy a3;obtain⟨b,hb,O⟩:=hr.mp_inv;obtain⟨b',f,n,g1,U,V,gI⟩:=J.map F;rw[hb]at g1;cases g1;obtain⟨fq,z,E⟩:=xb hk V.ents R;rw[←K]at z;have A:(getObj b).run P w= .ok (.map f n) w:=by simp[getObj,Sem.run,U]
  have C: ∀ob,(setObj b ob).run P w= .ok () (w.putObj b ob):=fun ob=>by simp[setObj,Sem.run,U,World.putObj]
  have g:a.eval q=gK (cZ P kt) key:=by rw[K,xn]
  match r,fq,E with
  |none,none,_=>
   obtain⟨_,L,I⟩:=tD J (es':=es++[(key,yv)]) (ents':=f.push {key:=gK (cZ P kt) key,val:=a.eval v,born:=n}) (clk':=n+1) F hb U gI fun c=>(V.mono c).push (S.mono c);refine dX.skip ?_ ⟨k,RA.undf,L,I⟩;unfold execOp;rw[Q];refine vM ?_;simp only[Instr.mapUpdate,bF,run_underlying hu,bL,O,A,D,z,C];rw[g]
  |some (i,y'),some (j,v'),E=>
   obtain⟨rfl,_,h2,e,qk,h3,Y,h5⟩:=E;obtain⟨_,G,T⟩:=zY es 0 i y' R;simp only[Nat.sub_zero]at h3 Y G;rw[G]at Y;obtain⟨rfl,_⟩:=eF (aJ Y);have M:f[i]?=some e:=by simpa using h3
   have a2:e.key=gK (cZ P kt) key:=(V.2.2 i e _ M G).1;have hne:cZ P kt=false→key≠[]:=fun ha hn=>FT hk ha (by subst hn;exact fK hl.symm)
   obtain⟨_,L,I⟩:=tD J (es':=es.set i (key,yv)) (ents':=f.modify i fun e=>{e with key:=gK (cZ P kt) key,val:=a.eval v}) (clk':=n) F hb U gI fun c=>(V.mono c).set fun e' y2 _ _=>⟨rfl,S.mono c,rfl⟩
   refine dX.skip ?_ ⟨k,RA.undf,L,I⟩;unfold execOp;rw[Q];refine vM ?_;rw[g]at D z;simp only[Instr.mapUpdate,bF,run_underlying hu,bL,O,A,D,z,C,M,eZ,ek,a2,g,FN T hne]
 ·cases W
theorem VJ{t kt et:TypeId}{p q:Operand}{m x:X}{ks:List SK}{z:AV}(ho:o.op= .mapEntry t p q)(hu:P.underlying t=some (.map kt et))(hm:cX P t p=some m)(hx:cX P kt q=some x)(hk:dy P 12 kt=some ks)(hz:w6 P et=some z)
  (h:(CI.men (cZ P kt) ks z m x).sem fr s=some (d,s')):bu LL P o fr s d s':=by
 have hp:p∈o.op.operands:=by rw[ho];simp[Op.operands]
 have hq:q∈o.op.operands:=by rw[ho];simp[Op.operands]
 obtain⟨key,W,a4⟩:=aT (show(((x.ev fr).bind (AV.keyK (cZ P kt) ks)).bind fun key=>(m.ev fr).bind fun p=>tU (cZ P kt) ks s key z p)=some (d,s')from h);obtain⟨kv,a7,N⟩:=aT W;obtain⟨mv,a9,hd⟩:=aT a4;intro B k a w F Q;obtain⟨R,hl⟩:=(bI F hq hx a7).keyK_eq (P:=P) (t:=kt) N rfl;obtain⟨zv,b0,a2⟩:=PK hz k w
 have hr:=bI F hp hm a9;have I: ∀em,(Instr.checkKey em 10000 kt (a.eval q)).run P w= .ok () w:=fun em=>by rw[R];exact sr 12 10000 kt ks a8 hk key hl
 have a3: ∀(k':aU) (w':World) (u:Value) (y:AV) (n:Nat),RA k' w' u y→RA k' w' (.tuple #[u,goInt n]) (.tup [y,vd n]):=fun k' w' u y n hu=>by
  refine .tup (us:=[u,goInt n]) rfl fun i u' c C hc=> ?_
  match i with
  |0=>simp at C hc;subst C;subst hc;exact hu
  |1=>simp at C hc;subst C;subst hc;exact .d (RD.sc _)
  |i+2=>simp at C
 unfold tU at hd;split at hd
 ·rename_i id;obtain⟨es,a6,a5⟩:=aT hd;obtain⟨r,a0,S⟩:=bB a5;have L:=xy a6;obtain⟨b,hb,Z⟩:=hr.mp_inv;obtain⟨b',g,l,g1,g2,T,gI⟩:=Q.map L;rw[hb]at g1;cases g1;obtain⟨fq,D,K⟩:=xb hk T.ents a0;rw[←R]at D;have E:(getObj b).run P w= .ok (.map g l) w:=by simp[getObj,Sem.run,g2]
  have G: ∀ob,(setObj b ob).run P w= .ok () (w.putObj b ob):=fun ob=>by simp[setObj,Sem.run,g2,World.putObj]
  have A:a.eval q=gK (cZ P kt) key:=by rw[R,xn]
  match r,fq,K with
  |none,none,_=>
   obtain⟨rfl,rfl⟩:=eF S;obtain⟨Y,S,O⟩:=tD Q (es':=es++[(key,z)]) (ents':=g.push {key:=gK (cZ P kt) key,val:=zv,born:=l}) (clk':=l+1) L hb g2 gI fun f=>(T.mono f).push (a2 _ _);refine dX.value (v:= .tuple #[zv,goInt l]) ?_ ⟨k,by rw[←T.2.1];exact a3 _ _ _ _ _ (a2 _ _),S,O⟩;unfold execOp;rw[ho];refine eI ?_
   simp only[Instr.mapEntry,bF,run_underlying hu,bL,Z,E,I,D,b0,G,bZ];rw[A]
  |some (i,y'),some (j,v'),K=>
   obtain⟨rfl,rfl⟩:=eF S;obtain⟨rfl,_,h2,e,qk,h3,h4,h5⟩:=K;obtain⟨_,M,a1⟩:=zY es 0 i y' a0;simp only[Nat.sub_zero]at h3 h4 M;rw[M]at h4;obtain⟨rfl,_⟩:=eF (aJ h4);have J:g[i]?=some e:=by simpa using h3
   obtain⟨V,_,H⟩:=T.2.2 i e _ J M;dsimp only at V;have hne:cZ P kt=false→key≠[]:=fun ha hn=>FT hk ha (by subst hn;exact fK hl.symm);obtain⟨Y,S,O⟩:=tD Q (es':=es.set i (key,y')) (ents':=g.modify i fun e=>{e with key:=gK (cZ P kt) key}) (clk':=l) L hb g2 gI fun f=>(T.mono f).set fun e' y2 U b1=>by
    rw[J]at U;cases U;exact⟨rfl,by dsimp only;rw[h5];exact h2.mono f,rfl⟩
   refine dX.value (v:= .tuple #[v',goInt i]) ?_ ⟨k,a3 _ _ _ _ _ (h2.mono Y),S,O⟩;unfold execOp;rw[ho];refine eI ?_;rw[A]at I D;simp only[Instr.mapEntry,bF,run_underlying hu,bL,Z,E,I,D,G,J,eZ,ek,V,A,FN a1 hne,H,bZ]
 ·cases hd
theorem VN{t kt et:TypeId}{p q v:Operand}{m x y:X}(M:o.op= .entryStore t p q v)(hu:P.underlying t=some (.map kt et))(hm:cX P t p=some m)(hx:cX P 0 q=some x)(hy:cX P et v=some y)
  (h:(CI.mst m x y).sem fr s=some (d,s')):bu LL P o fr s d s':=by
 have hp:p∈o.op.operands:=by rw[M];simp[Op.operands]
 have hq:q∈o.op.operands:=by rw[M];simp[Op.operands]
 have hv:v∈o.op.operands:=by rw[M];simp[Op.operands]
 obtain⟨n,hn,O⟩:=aT (show(((x.ev fr).bind AV.int?).bind fun j=>(y.ev fr).bind fun u=>(m.ev fr).bind fun p=>tV s j u p)=some (d,s')from h);obtain⟨xv,a2,Z⟩:=aT hn;obtain⟨yv,a3,Q⟩:=aT O;obtain⟨mv,Y,L⟩:=aT Q;intro B k a w g K;have hi:=(bI g hq hx a2).sc_eq (AV.int_sc Z);have hr:=bI g hp hm Y;have a0:=bI g hv hy a3
 unfold tV at L;split at L
 ·rename_i id;obtain⟨⟨ag,es⟩,T,l⟩:=aT L;split at l
  ·rename_i h0;obtain⟨x0,z,R⟩:=bB l;obtain⟨rfl,rfl⟩:=eF R;have G:=V6 T;obtain⟨b,hb,W⟩:=hr.mp_inv;obtain⟨b',c,A,g1,N,C,gI⟩:=K.map G;rw[hb]at g1;cases g1;dsimp only at z⊢;have F:(getObj b).run P w= .ok (.map c A) w:=by simp[getObj,Sem.run,N]
   have J: ∀ob,(setObj b ob).run P w= .ok () (w.putObj b ob):=fun ob=>by simp[setObj,Sem.run,N,World.putObj]
   have I:n.toNat<c.size:=by rw[C.1];exact(b9.1 z).1
   have E:c[n.toNat]?=some c[n.toNat]:=mI I;obtain⟨S,_,i⟩:=C.2.2 _ _ _ E z;have r:c.findIdx? (fun e=>(e.born:Int)==n)=some n.toNat:=by
    rw[Array.findIdx?_eq_some_iff_getElem];refine⟨I,?_,fun j hj=> ?_⟩
    ·simp only[i,beq_iff_eq];omega
    ·have H:j<c.size:=by omega
     have U:c[j]?=some c[j]:=mI H;have V:j<es.length:=by rw[←C.1];exact H
     have:=(C.2.2 j _ _ U (bN V)).2.2;simp only[this,beq_iff_eq];omega
   obtain⟨_,R,a1⟩:=tD K (es':=es.set n.toNat (x0.1,yv)) (ents':=c.modify n.toNat fun e=>{e with val:=a.eval v}) (clk':=A) G hb N gI fun f=>(C.mono f).set fun e' y2 D a4=>by
    rw[E]at D;cases D;exact⟨S,a0.mono f,rfl⟩
   refine dX.skip ?_ ⟨k,RA.undf,R,a1⟩;unfold execOp;rw[M];refine vM ?_;simp only[Instr.entryStore,W,bF,F,bL,hi,asInt,asIntOf,bZ,r,J]
  ·cases l
 ·cases L
end
end Go.Bb
