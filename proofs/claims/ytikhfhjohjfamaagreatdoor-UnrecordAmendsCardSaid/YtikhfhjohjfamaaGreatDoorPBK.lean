/- Lemmas. -/
import Derived.Lib.Overlaps
import Derived.Laws.Externs
import Derived.Laws.IdiomCopy
import Derived.Test.YtikhfhjohjfamaaGreatDoorNF
set_option linter.unusedVariables false
set_option linter.unusedSimpArgs false
set_option maxRecDepth 100000
namespace Go.Proofs.Lh
open Go Go.Ab Go.Bb Go.RowKit Go.Proofs.Lg
theorem By: ∃i z,Tryz.prog.info? 71=some i/\i.size=37/\i.zero=some z/\z.cells.size=37/\(∀u∈z.cells,u.oneCell'=true)/\0<i.bytes/\i.bytes<=1000:=by
 have h:(Tryz.prog.info? 71).elim false (λi=>i.size==37&&decide (0<i.bytes)&&decide (i.bytes<=1000)&&i.zero.elim false λz=>z.cells.size==37&&z.cells.all (·.oneCell'))=true:=by kernel_rfl
 cases hi:Tryz.prog.info? 71 with
 |none=>rw[hi]at h;cases h
 |some i=>
  rw[hi]at h;cases a:i.zero with
  |none=>simp[a]at h
  |some z=>
   simp[a]at h;exact⟨i,z,rfl,h.1.1.1,a,h.2.1,λu c=>by obtain⟨j,b,rfl⟩:=Array.mem_iff_getElem.1 c;exact h.2.2 j b,h.1.1.2,h.1.2⟩
set_option maxHeartbeats 400000 in
set_option maxRecDepth 100000 in
theorem GL(w:World)(a:Option Addr)(n c:Nat)(b:Option Addr)(d:Nat){f:Value}{g:World}(h:n<=c)
  (i: ∀j,(Builtin.append_ #[23,22] j #[.slice a n c,.slice b 1 d]).run Tryz.prog w= .ok f g):
  Calls Tryz.prog 118 #[.slice a n c,.int .i64 n,.slice b 1 d] w λe w'=>e= .returned f/\w'=g:=by
 go_enter Tryz.func118,Tryz.ntmps118
 go_wp2_with (at_builtin;refine Go.Lib.wpList_append_run _ rfl _ _ _ _ rfl _ _ rfl rfl _ _ (i _) ?_)
 all_goals(go_ret;exact⟨rfl,rfl⟩)
theorem Ct{P:Program}(w:World)(t s v e:TypeId)(i:TypeInfo)(r:P.underlying t=some (.slice e))(hi:P.info? e=some i)(g o c l:Nat)(cur:Array Value)(T:TypeId)(hg:w.heap[g]?=some (.cells cur T (0,0)))(a:Addr)(b h k:Nat)(news:List Value)(hk:Nat.min b c=k)(p:news.length=k*i.size)
  (q: ∀j u,news[j]?=some u->w.cell? (a.add j)=some u) (m: ∀u∈news,u.oneCell'=true) (d:o+news.length<=cur.size):
  (Builtin.copy_ #[t,s] v #[.slice (some ⟨g,o,none⟩) c l,.slice (some a) b h]).run P w= .ok (goInt k) (w.setRow g (cur.toList.take o++news++cur.toList.drop (o+news.length)).toArray):=by
 have f:=run_storeCells_at P g o T news 0 cur w hg (by simpa using d) m;simp only[aB]at f;have n:=run_firstCells_some (P:=P) w i.size k a b h news p q;subst hk;simp[Builtin.copy_,run_underlying r,Builtin.lenOf,sizeOf,typeInfo,hi,n,f]
theorem NS(w:World){P:Program}{o:Oper}{a:Act}{K:Act->World->Prop}{Q:Exit->Act->World->Prop}(d s:Operand)(t b:TypeId)
  (f:o.op= .call {callee:= .builtin .copy,args:= #[d,s],argTypes:= #[t,b]}) (v u:Value) (e:a.eval d=v) (i:a.eval s=u) {c:Value} {w':World}
  (g:(Builtin.copy_ #[t,b] o.type #[v,u]).run P w= .ok c w') (h:K (a.put o.dst c) w'):o.wp P a w K Q:=by
 unfold Oper.wp execOp;simp only[f,resolve,invoke,builtin,bP,cJ,bV,tU,bX,fi,e,i,g];exact h
theorem ZX(w:World){P:Program}{ops:Array Oper}{rest:List Oper}{o:Oper}{a:Act}{Q:Exit->Act->World->Prop}(b:o.guard=none)(d s:Operand)(t c:TypeId)
  (i:o.op= .call {callee:= .builtin .copy,args:= #[d,s],argTypes:= #[t,c]}) (v u:Value) (g:a.eval d=v) (k:a.eval s=u) {e:Value} {w':World}
  (j:(Builtin.copy_ #[t,c] o.type #[v,u]).run P w= .ok e w') (h:wpList P ops Q rest (a.put o.dst e) w'):wpList P ops Q (o::rest) a w:=
 wpList_plain b λ_ f=>NS w d s t c i v u g k j (f _ _ h)
theorem N4{P:Program}{ops:Array Oper}{o:Oper}{a:Act}{w:World}{K:Act->World->Prop}{Q:Exit->Act->World->Prop}{E:Prop}
  (hg:o.guard=none) (d x:Operand) (b e:TypeId) (c:o.op=Op.call {callee:=Callee.builtin Builtin.copy,args:= #[d,x],argTypes:= #[b,e]})
  (v u:Value) (h:a.eval d=v) (k:a.eval x=u) {f:Value} {w':World} (i:(Builtin.copy_ #[b,e] o.type #[v,u]).run P w= .ok f w') (g:K (a.put o.dst f) w'):
  if Region.wanted o (yielded ops a.tmps)=true then Oper.wp P o a w K Q else E:=by
 have j:Region.wanted o (yielded ops a.tmps)=true:=by simp[Region.wanted,hg]
 rw[if_pos j];exact NS w d x b e c v u h k i g
set_option maxHeartbeats 4000000 in
set_option maxRecDepth 100000 in
theorem Ou(w:World)(g n c i h C E:Nat)(cur a:Array Value)(us news:List Value)(hi:i<n)(L:n+1<=c)(X:c<=9223372036854775807)(G:h≠g)(hg:w.heap[g]?=some (.cells cur 71 (0,0)))(d:cur.size=c*37)(q:cur.toList.take (n*37)=us)(t: ∀u∈us,u.oneCell'=true)
  (H:w.heap[h]?=some (.cells a 71 (0,0))) (hc2s:a.size=E*37) (hc2p:1<=E) (b:a.toList.take 37=news) (l: ∀u∈news,u.oneCell'=true):
  Calls Tryz.prog 118 #[.slice (some ⟨g,0,none⟩) n c,.int .i64 i,.slice (some ⟨h,0,none⟩) 1 C] w λe w'=>e= .returned (.slice (some ⟨g,0,none⟩) (n+1) c)/\
   ∃A:Array Value,w'=w.drew.setRow g A/\A.size=c*37/\A.toList.take ((n+1)*37)=us.take (i*37)++news++us.drop (i*37):=by
 obtain⟨J,z,k,y,_⟩:=By;have K: ∀M cb,(callFunc 189 #[.slice (some ⟨h,0,none⟩) 1 C,.slice (some ⟨g,(i+1)*37,none⟩) M cb]).run Tryz.prog w= .ok (.value (.bool false)) w:=λM cb=>by
  rw[run_callFunc_extern Tryz.func189 (by kernel_rfl) (by kernel_rfl) (by kernel_rfl) (e:=Extern.SlicesOverlaps.overlaps #[22,22] #[4]) (by kernel_rfl),
   Go.Lib.run_overlaps_apart w 22 4 71 Tryz.underlying22 37 (λw=>by simp[sizeOf,typeInfo,k,y]) ⟨h,0,none⟩ ⟨g,(i+1)*37,none⟩ 1 C M cb G 71 71 a.size cur.size (by simp[World.shape?,H]) (by simp[World.shape?,hg]) a8 (by simp[World.frozen?,H]) (by simp[World.frozen?,H])]
  rfl
 have a2: ¬((i:Int)=(n:Int)):=by omega
 have a0:IntKind.i64.wrap ((i:Int)+1)=(i:Int)+1:=by rw[IntKind.wrap_i64];omega
 have a1:IntKind.i64.wrap ((n:Int)+1)=(n:Int)+1:=by rw[IntKind.wrap_i64];omega
 have T:(0:Int)<=(i:Int)+1:=by omega
 have Y:i<=n:=by omega
 have Z:((i:Int)+1).toNat=i+1:=by omega
 have U: ¬(c=i+1):=by omega
 have V:(i:Int)<=(n:Int)+1:=by omega
 have W: ¬(c=i):=by omega
 have O: ¬((c:Int)<(n:Int)+1):=by omega
 have p:us.length=n*37:=by rw[<-q,cC,ic,d];omega
 have f:news.length=37:=by rw[<-b,cC,ic,hc2s];omega
 have m:(us.drop (i*37)).length=(n-i)*37:=by rw[ax,p];omega
 have x:w.drew.heap[g]?=some (.cells cur 71 (0,0)):=hg;have r: ∀B v N,(Builtin.copy_ #[23,23] B #[.slice (some ⟨g,(i+1)*37,none⟩) (n-i) v,.slice (some ⟨g,i*37,none⟩) (n+1-i) N]).run Tryz.prog w.drew= .ok (goInt (n-i:Nat)) (w.drew.setRow g (cur.toList.take ((i+1)*37)++us.drop (i*37)++cur.toList.drop ((i+1)*37+(us.drop (i*37)).length)).toArray):=λB v N=>
  Ct (P:=Tryz.prog) w.drew 23 23 B 71 J Tryz.underlying23 k g ((i+1)*37) (n-i) v cur 71 x ⟨g,i*37,none⟩ (n+1-i) N (n-i) (us.drop (i*37)) (by simp only[Nat.min_def];split<;>omega) (by rw[y];exact m)
   (λj u o=>by
    rw[fW,World.cell?_drew,cell_of_row w g _ cur _ _ hg];rw[gf,<-q,fL]at o;split at o
    .simpa using o
    .cases o) (λu hu=>t u (vv hu)) (by rw[m,d];omega)
 have hA1l:(cur.toList.take ((i+1)*37)++us.drop (i*37)++cur.toList.drop ((i+1)*37+(us.drop (i*37)).length)).length=c*37:=by
  simp only[aQ,cC,ax,ic,d,p];omega
 have hA1t:(cur.toList.take ((i+1)*37)++us.drop (i*37)++cur.toList.drop ((i+1)*37+(us.drop (i*37)).length)).take (i*37)=us.take (i*37):=by
  rw[bk,ij (by rw[cC,ic,d];omega),sa,<-q,sa];congr 1;omega
 have hA1d:((cur.toList.take ((i+1)*37)++us.drop (i*37)++cur.toList.drop ((i+1)*37+(us.drop (i*37)).length)).drop ((i+1)*37)).take ((n-i)*37)=us.drop (i*37):=by
  rw[bk,List.drop_left' (by rw[cC,ic,d];omega),xI m]
 generalize cur.toList.take ((i+1)*37)++us.drop (i*37)++cur.toList.drop ((i+1)*37+(us.drop (i*37)).length)=A1 at r hA1l hA1t hA1d;have F:=setRow_heap w.drew g cur A1.toArray 71 (0,0) x;have I:(w.drew.setRow g A1.toArray).heap[h]?=some (.cells a 71 (0,0)):=(setRow_other w.drew g h _ G).trans H
 have s: ∀B v,(Builtin.copy_ #[23,22] B #[.slice (some ⟨g,i*37,none⟩) (n+1-i) v,.slice (some ⟨h,0,none⟩) 1 C]).run Tryz.prog (w.drew.setRow g A1.toArray)= .ok (goInt (1:Nat)) ((w.drew.setRow g A1.toArray).setRow g (A1.toArray.toList.take (i*37)++news++A1.toArray.toList.drop (i*37+news.length)).toArray):=λB v=>
  Ct (P:=Tryz.prog) _ 23 22 B 71 J Tryz.underlying23 k g (i*37) (n+1-i) v A1.toArray 71 F ⟨h,0,none⟩ 1 C 1 news (by simp only[Nat.min_def];split<;>omega) (by rw[y,f])
   (λj u o=>by
    rw[fW,aw,cell_of_row _ h _ a _ _ I];rw[<-b,fL]at o;split at o
    .simpa using o
    .cases o) l (by rw[f,me,hA1l];omega)
 have hA2s:(A1.toArray.toList.take (i*37)++news++A1.toArray.toList.drop (i*37+news.length)).toArray.size=c*37:=by
  simp only[me,aQ,cC,ax,f,hA1l];omega
 have D:(A1.toArray.toList.take (i*37)++news++A1.toArray.toList.drop (i*37+news.length)).toArray.toList.take ((n+1)*37)=us.take (i*37)++news++us.drop (i*37):=by
  show((A1.take (i*37)++news++A1.drop (i*37+news.length))).take ((n+1)*37)=_;rw[hA1t,f];have Q:(us.take (i*37)++news).length=(i+1)*37:=by rw[aQ,cC,p,f];omega
  have R:(n+1)*37=(us.take (i*37)++news).length+(n-i)*37:=by rw[Q];omega
  have S:i*37+37=(i+1)*37:=by omega
  rw[R,List.take_length_add_append,S,hA1d]
 generalize hA2e:(A1.toArray.toList.take (i*37)++news++A1.toArray.toList.drop (i*37+news.length)).toArray=A2 at s hA2s D;clear hA2e hA1l hA1t hA1d F I hg H q b t l m p f d hc2s x;have mixed:Tryz.prog.follows Departure.mixedOrders=true:=by kernel_rfl
 go_enter Tryz.func118,Tryz.ntmps118
 go_wp2_with (simp only[K])
 go_region_law_o (refine N4 rfl _ _ 23 23 rfl _ _ (by simp[Act.eval,Act.put]) (by simp[Act.eval,Act.put]) (r _ _ _) ?_)
 go_wp2_with (at_builtin;refine ZX _ rfl _ _ 23 22 rfl _ _ rfl rfl (s _ _) ?_)
 all_goals(go_ret;exact⟨rfl,_,by rw[setRow_setRow],hA2s,D⟩)
end Go.Proofs.Lh
namespace Go.Proofs.Q
open Go Go.Bb Go.RowKit Go.Proofs.Lg
open Go.Ab (D RD)
def gM(G:eu):MD:=G.map λe=>(e.1,.d (.sl 32 (e.2.map au)))
def va(G:eu)(i:Nat)(V:eu):eu:=match G[i]? with
 |some (id,needs)=>nc (il V id []) id needs
 |none=>V
def iI(G:eu):List Nat->eu->eu
 |[],V=>V
 |i::idx,V=>iI G idx (va G i V)
theorem Nn(G:eu)(i:Nat): ∀(a:List Nat) (V:eu),iI G (a++[i]) V=va G i (iI G a V)
 |[],V=>rfl
 |j::a,V=>Nn G i a _
theorem Dn(id:Dg): ∀(needs:List Dg) (V:eu) (c:Nat),(∀e∈V,e.2.length<=c)-> ∀e∈nc V id needs,e.2.length<=c+needs.length
 |[],V,c,h=>λe a=>h e a
 |d::l,V,c,h=>λe a=>by
  have:=Dn id l (il V d [id]) (c+1) (λe a=>by have:=An (news:=[id]) h e a;simpa using this) e a;rw[aY];omega
theorem Y9(I:Nat->Nat)(w:World)(d:Dg):RD I w (.agg (dn d).toArray) (.agg ((dn d).map .sc)):=
 .agg _ _ (by simp) (λu a=>by obtain⟨b,_,rfl⟩:=bM.1 a;rfl) λi u e a c=>by
  rw[dj,a]at c;cases c;exact .sc u
theorem RN{k:aP}{w:World}{x:AV}(n:Nat): ∀{vs:List Value},fU k w vs [x]->FR k w {tmps:=vs.toArray++Array.replicate (n-vs.toArray.size) undef,defers:=[]} [(0,x)]
 |[v],hvs=>λt y a=>by
  unfold Bb.look at a;split at a
  .rename_i e;subst e;obtain rfl:=aJ a;have hg:((#[v]:Array Value)++Array.replicate (n-1) undef).getD 0 undef=v:=by rw[rX,D6 (by simp)];rfl
   show RA k w (((#[v]:Array Value)++Array.replicate (n-1) undef).getD 0 undef) x;rw[hg];exact hvs.2 0 v _ rfl rfl
  .cases a
theorem Ef{G:eu}{i:Nat}{x:List Value×AV}(h:(cM (gM G))[i]?=some x): ∃id needs,G[i]?=some (id,needs)/\x=(dn id,.d (.sl 32 (needs.map au))):=by
 unfold cM gM at h;rw[dj,dj]at h;cases a:G[i]? with
 |none=>rw[a]at h;cases h
 |some e=>rw[a]at h;cases h;exact⟨e.1,e.2,rfl,rfl⟩
set_option maxHeartbeats 1000000 in
theorem Zq(G:eu)(c0:G.length<=100000)(Q: ∀e∈G,e.2.length<=100000)(s:List aa)(g:Nat)(hg:s[g]?=some (.map true (cM (gM G)))):
  kx (dH Tryz.prog) Tryz.prog 229 [.mp g] s λd s'=> ∃c M,c.Nodup/\c.length=G.length/\(∀i∈c,i<G.length)/\d= .mp s.length/\TS s.length M (iI G c []) s':=by
 obtain⟨cX,cY,cZ,rest,a9,b0,b8,oa,oc,o1,o2,o3,l4,A,⟨k1,k2,k3,k4,k5⟩,⟨a1,a2,a3,a4,a5,a6,a7⟩,⟨b1,b2,b3,b4,b5,b6,b7⟩,⟨c1,c2,c3,c4⟩,u⟩:=Zo;have p:=(aV.1 hg).1;refine kx.of (fr:=[(0,.mp g)]) Tryz.func229 A (by rfl) (by show 1<=39;decide) (λk w vs Y=>RN _ Y) ?_;show eG (dH Tryz.prog) Tryz.prog 39 none _ _ _ _
 refine eG.seq (eG.ofAC (bG (cc:=Gm) ?_) ⟨_,k1⟩);unfold Gm;refine aC @wj trivial ?_;refine eG.seq (eG.ofAC (bG (cc:=Gn) ?_) ⟨_,k2⟩);unfold Gn;refine aC @wj trivial ?_;refine eG.seq ?_
 refine eG.map (t0:=0) (t9:=9) (t10:=10) (t11:=11) (t12:=12) (t13:=13) (fr0:=[(3,.mp s.length)]) (g:=g) (ag:=true) (es:=cM (gM G)) (keyA:=λus=> .d (.agg (us.map .sc))) (J:=λc D=>D[g]?=some .hole/\(∃M,TS s.length M (iI G c []) D)/\ ∀e∈iI G c [],e.2.length<=c.length*100000)
  (s2:=(s.map λ_=>aa.junk).set g .hole++[.map true []]) a1 a2 a3 a4 a5 a6 a7 Tryz.underlying256 b1 b2 b3 b4 b5 b6 b7 c1 c2 c3 c4 (by decide) (by decide) (by decide) (by decide) (by decide) ?n4 ?nd4 (by decide) ?hfr ?hfr' ?hkey ?hval ?hround ?hf0 ?hg ?hl2 ?hh2 ?hfree ?hrg ?hfr0 ?hJ0 ?hJh ?hQ
 case n4=>
  intro o X d hd;have:=js.1 u o X;rw[hd]at this;simp at this;exact this.1
 case nd4=>
  intro o X;have:=js.1 u o X;rw[dW]at this;exact this.2
 case hfr=>intro t y h;obtain⟨rfl,_⟩:=wD h;decide
 case hfr'=>intro t y h;obtain⟨rfl,_⟩:=wD h;decide
 case hkey=>
  intro k w x f;obtain⟨i,hi⟩:=fE f;obtain⟨id,needs,_,rfl⟩:=Ef hi;exact .d (Y9 _ _ id)
 case hval=>
  intro x f;obtain⟨i,hi⟩:=fE f;obtain⟨id,needs,_,rfl⟩:=Ef hi;exact⟨_,rfl⟩
 case hf0=>rfl
 case hg=>exact bz hg _
 case hl2=>simp
 case hh2=>rw[fP (by simpa using p),ej (by simpa using p)]
 case hrg=>intro h;cases h
 case hfree=>
  intro id x W f;rw[jb]at f;split at f
  .rw[bC (Ne.symm W),dj]at f;obtain⟨y,_,rfl⟩:=dy.1 f;exact .inl rfl
  .rename_i m;have hl:((s.map λ_=>aa.junk).set g .hole).length=s.length:=by simp
   rw[hl]at m f;have h0:id-s.length=0:=by
    rcases qM (id-s.length)with h0|h0
    .exact h0
    .rw[iO (by simp;omega)]at f;cases f
   rw[h0]at f;obtain rfl:=aJ f;refine .inr ⟨?_,xA.mapNil g true⟩;rw[iY a8,h0];rfl
 case hfr0=>
  intro k w a U t y h;obtain⟨rfl,rfl⟩:=wD h;obtain⟨b,hb,hv⟩:=(U 3 (.mp s.length) rfl).mp_inv;rw[hv];exact .mp (by show(k.own.set g .hole)[s.length]?=_;rw[bC a8];exact hb)
 case hJ0=>
  refine⟨?_,⟨[],?_,rfl,List.nodup_nil,λj k v h=>by simp at h,λi j e e' r _ h=>by simp at h⟩,λe n=>by cases n⟩
  .rw[fP (by simpa using p),ej (by simpa using p)]
  .rw[iY (by simp)];simp[cM]
 case hJh=>exact λc D h=>h.1
 case hround=>
  rintro K c i x D C c5 m f ⟨H,⟨M,q⟩,hb⟩;obtain⟨id,needs,E,rfl⟩:=Ef f;have z:c.length<=100000:=by
   have h1:c.length<=(List.range (cM (gM G)).length).length:=wG C λy hy=>lp.2 (m y hy);have L:(cM (gM G)).length=G.length:=by simp[cM,gM]
   rw[dX,L]at h1;omega
  have I:=Q (id,needs) (bR E);have F:=An (key:=id) (news:=[]) hb;refine Mk (N:=39) ?_ k5 ⟨_,k4⟩;show cy Tryz.prog none (.seq (.ops false [] CK) (.seq _ CL)) _ _ _;rw[<-Cc];refine Zp s.length g id needs K M (iI G c []) (c.length*100000) a8 hb D q H _ CL λP s2 M2 O f3 f5 f4 T V R=> ?_
  refine mY (Zr s.length g D.length id needs I K _ (c.length*100000) a8 (λe n=>by have:=F e n;simpa using this) P s2 M2 O f3 f5 f4 T V R) ?_;rintro e b9 s3 ⟨n,Z,l3,lg,M3,S⟩;have ht:iI G (c++[i]) []=nc (il (iI G c []) id []) id needs:=by rw[Nn];unfold va;rw[E]
  refine⟨n,λt y h=> ?_,lg,⟨M3,by rw[ht];exact S⟩,λe n=> ?_⟩
  .unfold Bb.look at h;split at h
   .rename_i e2;subst e2;rw[<-h];exact Z
   .obtain⟨rfl,rfl⟩:=wD h;exact l3
  .rw[ht]at n;have:=Dn id needs _ (c.length*100000) (λe n=>by have:=F e n;simpa using this) e n;rw[aQ,oJ];have a0:needs.length<=100000:=I;omega
 case hQ=>
  rintro c D C z m ⟨H,⟨M,q⟩,hb⟩;have L:(cM (gM G)).length=G.length:=by simp[cM,gM]
  show eG (dH Tryz.prog) Tryz.prog 39 none cZ _ _ _;refine eG.ofAC (bG (cc:=Gp) ?_) ⟨_,k3⟩;unfold Gp;refine aC @wj trivial ?_;refine⟨.inr trivial,_,⟨c,M,C,by rw[z,L],λi hi=>by have:=m i hi;rwa[L]at this,rfl,?_⟩,λB k a w U hs=>Co (fn:=Tryz.f229) (rs:=[.tmp 2]) (by rfl) (by rfl) U hs⟩
  refine⟨getSet q.map (λe=>by rw[e,q.map]at H;cases H),q.keys,q.nd,λj k v hj=> ?_,q.apart⟩;obtain⟨l,l1,l2⟩:=q.row j k v hj;exact⟨l,l1,l2.imp (λh=>h) λ⟨r,r1,r2⟩=>⟨r,r1,getSet r2 λe=>by subst e;rw[H]at r2;cases r2⟩⟩
end Go.Proofs.Q
