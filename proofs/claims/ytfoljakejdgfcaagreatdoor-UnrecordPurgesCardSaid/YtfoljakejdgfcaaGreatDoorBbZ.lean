/- Part of a proof. -/
import Derived.Test.YtfoljakejdgfcaaGreatDoorPAE
import Derived.Maps.RangeRun
set_option linter.unusedVariables false
set_option linter.unusedSimpArgs false
namespace Go.Bb
open Go Go.RowKit Go.Ab Go.Proofs.Lg
open Go.ChangeMaps (setBlock)
section
variable {LL:Nat→Code→CC→Prop} {P:Program} {N:Nat} {rd:Option Nat}
def dG(d:Nat→Code→CC→Prop)(P:Program)(N:Nat)(rd:Option Nat)(c:Code)(fr:Fr)(s:List aa)(Q:Exit→Fr→List aa→Prop):Prop:=
 ∀(B:Nat) (k:aF) (a:Act) (w:World) (r:Option Nat),pF k rd r→a.tmps.size=N→FR k w a fr→St d B k s w→c.wpIn (FW r) 0 P (fun b f w'=> ∃fr' e,Q b fr' e∧Ends d N B k a.defers w b fr' e b f w') a w
variable {fr:Fr} {s:List aa} {Q:Exit→Fr→List aa→Prop}
theorem dG.of{c:Code}{e:Exit}{fr':Fr}{d:List aa}(h:iO LL P N rd c fr s e fr' d)(j:Q e fr' d):dG LL P N rd c fr s Q:=fun B k a w r h0 f g i=>
 wpIn_mono (h B k a w r h0 f g i) fun l a2 m b=>by
  obtain⟨rfl,b⟩:=b;exact⟨fr',d,j,rfl,b⟩
theorem dG.ofAC{cc:CC}{c:Code}(h:AC P N rd cc Q fr s)(hc:dx P N c cc):dG (dx P) P N rd c fr s Q:=
 let⟨e,fr',d,a,b⟩:=h;dG.of (b c hc) a
theorem dG.mono{c:Code}{b:Exit→Fr→List aa→Prop}(h:dG LL P N rd c fr s Q)(l: ∀e fr s,Q e fr s→b e fr s):dG LL P N rd c fr s b:=fun B k a w r h0 d f g=>
 wpIn_mono (h B k a w r h0 d f g) fun n a2 o ⟨fr',m,i,j⟩=>⟨fr',m,l _ _ _ i,j⟩
theorem dG.frame{c:Code}{fr0:Fr}(h:dG LL P N rd c fr0 s Q)(f: ∀t x,look fr0 t=some x→look fr t=some x):dG LL P N rd c fr s Q:=fun B k a w r h0 b d e=>
 h B k a w r h0 b (fun t x g=>d t x (f t x g)) e
theorem dG.seq{x y:Code}(h:dG LL P N rd x fr s (fp (fun b f=>dG LL P N rd y b f Q) Q)):dG LL P N rd (.seq x y) fr s Q:=fun B k a w r h0 m n o=>by
 refine wpIn_seq (wpIn_mono (h B k a w r h0 m n o) ?_);rintro e l A ⟨b,f,i,g⟩;cases e with
 |normal=>
  obtain⟨_,p,q,t,j,u,v⟩:=g;refine wpIn_mono (i B p l A r (h0.mono j.mono) q u v) ?_;rintro C a2 D ⟨c,s2,z,d⟩;exact⟨c,s2,z,d.trans t j⟩
 |_=>exact⟨b,f,i,g⟩
theorem dG.block{id:Nat}{c:Code}(h:dG LL P N rd c fr s (la id Q)):dG LL P N rd (.block id c) fr s Q:=fun B k a w r h0 l m n=>by
 refine wpIn_block (wpIn_mono (h B k a w r h0 l m n) ?_);rintro e o p ⟨d,j,f,i⟩;rw[wR]at f;cases e with
 |exit b=>
  show if b=id then _ else _;by_cases e:b=id
  ·have g:qX id (.exit b)= .normal:=if_pos e;rw[g]at f;rw[if_pos e];exact⟨d,j,f,rfl,i.2⟩
  ·have g:qX id (.exit b)= .exit b:=if_neg e;rw[g]at f;rw[if_neg e];exact⟨d,j,f,rfl,i.2⟩
 |_=>exact⟨d,j,f,rfl,i.2⟩
structure j2(LL:Nat→Code→CC→Prop)(P:Program)(f:FuncId)(xs:List AV)(s:List aa)(K:AV→List aa→Prop):Prop where
 enters:Enters P f
 calls: ∀(B:Nat) (k:aF) (w:World) (vs:List Value),St LL B k s w→eT k w vs xs→Calls P f vs.toArray w fun e w'=> ∃d s',K d s'∧ ∃v k',e= .returned v∧RA k' w' v d∧Ext B k w k' w'∧St LL B k' s' w'
theorem j2.of{f:FuncId}{fn:Func}{c:Code}{xs:List AV}{K:AV→List aa→Prop}(l:P.funcs[f]?=some fn)(hb:fn.body=some c)(I:(fn.name== "runtime.NumGoroutine")=false)
  (S:xs.length≤fn.ntmps) (t: ∀(k:aF) (w:World) (vs:List Value),eT k w vs xs→FR k w {tmps:=vs.toArray++Array.replicate (fn.ntmps-vs.toArray.size) undef,defers:=[]} fr)
  (J:dG LL P fn.ntmps none c fr s fun e fr' h=>(e= .normal∨e= .ret)∧ ∃d,K d h∧ ∀(B:Nat) (k:aF) (a:Act) (w:World),FR k w a fr'→St LL B k h w→ ∃v,(results fn a.tmps).run P w= .ok v w∧RA k w v d):j2 LL P f xs s K:=by
 have x:fn.name≠ "runtime.NumGoroutine":=by simpa using I
 refine⟨fun args w=>by simp[callFunc,l,x,hb,Go.mark],fun B k w vs p q=> ?_⟩;rw[←callsIn_wide (n:=0)];refine callsIn_of_wp_marks l hb trivial ?_;have C:=q.1;refine wpIn_mono (J B k _ w none trivial (by simp;omega) (t k w vs q) p) ?_;rintro R r w' ⟨fr',h,⟨H,d,G,o⟩,_,k',T,⟨E,u,y,m⟩,L,M,N⟩;obtain⟨O,Q,D⟩:=GH m L N p.base
 have F:r.defers=E.map mark:=by rw[u];simp
 have j:LeavesInM Fence.wide 0 P fn r.tmps (fun e i=> ∃d h,K d h∧ ∃v g,e= .returned v∧RA g i v d∧Ext B k w g i∧St LL B g h i) r.defers .returning w':=by
  rw[F];refine DC E w' y (fun b hb=>(m b hb).2.1) ?_;obtain⟨v,z,A⟩:=o B k' r _ (M.mono O) D;exact⟨v,z,d,h,G,v,k',rfl,A,Q,D⟩
 rcases H with rfl|rfl
 ·exact j
 ·exact j
def uG(g:Nat)(x:aa):Prop:= ∀(a:Nat→Code→CC→Prop) (B:Nat) (k:aF) (w:World) (o:Own),jx a B k w x o→jx a B ⟨k.I,k.own.set g .hole⟩ w x o
theorem uG.mapNil(g:Nat)(ag:Bool):uG g (.map ag []):=fun p B k w o h=>by
 cases o with
 |blk b=>obtain⟨a,c,d,⟨f,j,_⟩,l⟩:=h;exact⟨a,c,d,⟨f,j,fun i e x _ m=>by simp at m⟩,l⟩
 |row v n=>exact h.elim
 |hole=>exact h.elim
theorem St.aside{B:Nat}{k:aF}{s s2:List aa}{w:World}(h:St LL B k s w){g:Nat}{ag:Bool}{es:List (List Value×AV)}(hg:s[g]?=some (.map ag es))(F:s2.length=s.length)(A:s2[g]?=some .hole)
  (E: ∀(id:Nat) (x:aa),id≠g→s2[id]?=some x→x= .junk∨(s[id]?=some x∧uG g x)):
  ∃l f,k.own[g]?=some (.blk l)∧w.heap[l]?=some (.map f es.length)∧j4 ag k w es f es.length∧k.I l=0∧B≤l∧jy ⟨k.I,k.own.set g .hole⟩ l∧St LL B ⟨k.I,k.own.set g .hole⟩ s2 w:=by
 obtain⟨o,q,p⟩:=h.get hg;cases o with
 |row v n=>exact p.elim
 |hole=>exact p.elim
 |blk l=>
  obtain⟨f,r,C,z,D⟩:=p;obtain rfl:r=es.length:=z.2.1;have u:=(aR.1 q).1;have d: ∀(id:Nat) (o:Own),(k.own.set g .hole)[id]?=some o→(id=g∧o= .hole)∨(id≠g∧k.own[id]?=some o):=fun id o a=>by
   by_cases e:id=g
   ·subst e;rw[dJ u]at a;exact .inl ⟨rfl,(az a).symm⟩
   ·rw[bs (Ne.symm e)]at a;exact .inr ⟨e,a⟩
  refine⟨l,f,q,C,z,D,(h.lies g _ l q rfl).1,fun id o a c=> ?_,h.base,by simp[F,h.len],fun id x o y a=> ?_,fun id o b a c=> ?_,fun i j o o' b t a m c=> ?_,h.glob⟩
  ·rcases d id o a with⟨_,rfl⟩|⟨hne,a⟩
   ·cases c
   ·exact h.apart id g o (.blk l) l hne a q c rfl
  ·rcases d id o a with⟨rfl,rfl⟩|⟨hne,a⟩
   ·rw[A]at y;obtain rfl:=az y;trivial
   ·rcases E id x hne y with rfl|⟨hs',hfr⟩
    ·cases o<;>trivial
    ·exact hfr LL B k w o (h.obj id x o hs' a)
  ·rcases d id o a with⟨_,rfl⟩|⟨hne,a⟩
   ·cases c
   ·exact h.lies id o b a c
  ·rcases d i o a with⟨_,rfl⟩|⟨hne,a⟩
   ·cases c
   ·rcases d j o' m with⟨_,rfl⟩|⟨hnj,m⟩
    ·intro e;cases e
    ·exact h.apart i j o o' b t a m c
theorem St.back{B:Nat}{t f:aF}{S:List aa}{D r:World}{g d:Nat}{ag:Bool}{es:List (List Value×AV)}{l:Array MapEntry}(hg:t.own[g]?=some (.blk d))(hm:j4 ag t D es l es.length)(W:D.heap[d]?=some (.map l es.length))(V:B≤d)
  (C:Ext B ⟨t.I,t.own.set g .hole⟩ D f r) (w:St LL B f S r) (U:S[g]?=some .hole) (R:r.heap[d]?=some (.map l es.length)) (P:jy f d):
  ∃O,Mono f r O r∧Ext B t D O r∧St LL B O (S.set g (.map ag es)) r∧O.own=f.own.set g (.blk d):=by
 have H:=(aR.1 hg).1;have J:=(aR.1 U).1;have A:g<f.own.length:=by rw[w.len];exact J
 have T:d<D.heap.size:=jd W;have E:d<r.heap.size:=jd R;have z:f.own[g]?=some .hole:=by
  obtain⟨o,q,K⟩:=w.get U;cases o with
  |hole=>exact q
  |blk b=>exact K.elim
  |row v n=>exact K.elim
 have h: ∀(id:Nat) (o:Own),(f.own.set g (.blk d))[id]?=some o→(id=g∧o= .blk d)∨(id≠g∧f.own[id]?=some o):=fun id o a=>by
  by_cases e:id=g
  ·subst e;rw[dJ A]at a;exact .inl ⟨rfl,(az a).symm⟩
  ·rw[bs (Ne.symm e)]at a;exact .inr ⟨e,a⟩
 have y: ∀o,r.cell? ⟨d,o,none⟩=none:=fun o=>by simp[World.cell?,R]
 have k:Mono f r ⟨dH f.I d 0,f.own.set g (.blk d)⟩ r:=⟨fun b o u q hc=>by
  by_cases e:b=d
  ·subst e;rw[y]at hc;cases hc
  ·exact⟨by show o<dH f.I d 0 b;rw[gT _ _ e];exact q,hc⟩,fun id o q=>by
  by_cases e:id=g
  ·subst e;rw[z]at q;obtain rfl:=az q;exact⟨.blk d,dJ A,trivial⟩
  ·exact⟨o,by show(f.own.set g (.blk d))[id]?=_;rw[bs (Ne.symm e)];exact q,de.refl o⟩⟩
 have p:Mono t D ⟨dH f.I d 0,f.own.set g (.blk d)⟩ r:=⟨fun b o u q hc=>by
  obtain⟨L,N⟩:=C.keep b o u q hc;exact k.keep b o u L N,fun id o q=>by
  by_cases e:id=g
  ·subst e;rw[hg]at q;obtain rfl:=az q;exact⟨.blk d,dJ A,rfl⟩
  ·obtain⟨o',L,N⟩:=C.own id o (by show(t.own.set g .hole)[id]?=_;rw[bs (Ne.symm e)];exact q);exact⟨o',by show(f.own.set g (.blk d))[id]?=_;rw[bs (Ne.symm e)];exact L,N⟩⟩
 refine⟨⟨dH f.I d 0,f.own.set g (.blk d)⟩,k,⟨p,C.below,fun b hb=> ?_,fun b hb Q=> ?_,fun id o b a c hb=> ?_⟩,⟨w.base,by simp[w.len],fun id x o s a=> ?_,fun id o b a c=> ?_,fun i j o o' b F a G c=> ?_,w.glob⟩,rfl⟩
 ·show dH f.I d 0 b=_;rw[gT _ _ a8];exact C.low b hb
 ·refine C.rest b hb fun id o a c=> ?_;have m:(t.own.set g .hole)[id]?=some o:=a;by_cases e:id=g
  ·subst e;rw[dJ H]at m;obtain rfl:=az m;cases c
  ·rw[bs (Ne.symm e)]at m;exact Q id o m c
 ·rcases h id o a with⟨rfl,rfl⟩|⟨hne,a⟩
  ·exact⟨_,hg,c⟩
  ·obtain⟨o',L,N⟩:=C.fresh id o b a c hb;have M:(t.own.set g .hole)[id]?=some o':=L;rw[bs (Ne.symm hne)]at M;exact⟨o',M,N⟩
 ·rcases h id o a with⟨rfl,rfl⟩|⟨hne,hi2⟩
  ·rw[dJ J]at s;obtain rfl:=az s;exact⟨l,es.length,R,hm.mono p,fH ..⟩
  ·rw[bs (Ne.symm hne)]at s;refine(w.obj id x o s hi2).same k fun b c=>⟨rfl,gT _ _ ?_⟩
   intro e;rw[e]at c;exact P id o hi2 c
 ·rcases h id o a with⟨rfl,rfl⟩|⟨hne,a⟩
  ·cases c;exact⟨V,E⟩
  ·exact w.lies id o b a c
 ·rcases h i o a with⟨rfl,rfl⟩|⟨hne,hi2⟩
  ·rcases h j o' G with⟨rfl,_⟩|⟨hnj,hj2⟩
   ·exact absurd rfl F
   ·cases c;exact P j o' hj2
  ·rcases h j o' G with⟨rfl,rfl⟩|⟨hnj,hj2⟩
   ·intro e;cases e;exact P i o hi2 c
   ·exact w.apart i j o o' b F hi2 hj2 c
theorem FR.out{k:aF}{w:World}{a:Act}{fr:Fr}{v:Value}{d:Nat}(h:FR k w a fr)(c:d<a.tmps.size)(e: ∀t x,look fr t=some x→t≠d):FR k w (a.put (some d) v) fr:=fun t x b=>by
 rw[rk a d v c t,if_neg (Ne.symm (e t x b))];exact h t x b
theorem rn{w:World}{r b:Nat}{o:Obj}(h:b≠r):(setBlock w r o).heap[b]?=w.heap[b]? :=by
 show(w.heap.setIfInBounds r o)[b]?=_;rw[Array.getElem?_setIfInBounds_ne (Ne.symm h)]
theorem Pr{w:World}{r:Nat}{o:Obj}(h:r<w.heap.size):(setBlock w r o).heap[r]?=some o:=by
 show(w.heap.setIfInBounds r o)[r]?=_;rw[Array.getElem?_setIfInBounds_self_of_lt h]
theorem setIter{B:Nat}{p d:aF}{j a:World}{q:List aa}{r:Nat}{m:Option Nat}{f c:Nat}{i:Array Nat}(o':Obj)(g:Ext B p j d a)(s:St LL B d q a)(v:B≤j.heap.size)(w:j.heap.size≤r)(l:a.heap[r]?=some (.mapIter m f i c))(t:jy d r):
  Ext B p j d (setBlock a r o')∧St LL B d q (setBlock a r o')∧Mono d a d (setBlock a r o'):=by
 have h:(setBlock a r o').heap.size=a.heap.size:=by show(a.heap.setIfInBounds r o').size=_;simp
 have hm:Mono d a d (setBlock a r o'):=⟨fun b o u k hc=>by
  have hne:b≠r:=by rintro rfl;simp[World.cell?,l]at hc
  refine⟨k,?_⟩;unfold World.cell? at hc⊢;rw[rn (show(⟨b,o,none⟩:Addr).block≠r from hne)];exact hc,fun id o k=>⟨o,k,de.refl o⟩⟩
 refine⟨⟨g.mono.trans hm,g.below.trans ⟨rfl,rfl,rfl,nX h.symm,fun b hb=>rn a8⟩,g.low,fun b hb n=> ?_,g.fresh⟩,s.same hm (nX h.symm) rfl (fun b hb=>⟨rn fun e=>hb (by rw[e];exact t),rfl⟩) (fun b hb=>rn a8),hm⟩;rw[rn a8];exact g.rest b hb n
theorem tT: ∀{l u:List Nat},l.Nodup→(∀x∈l,x∈u)→l.length≤u.length
 |[],_,_,_=>fM _
 |x::l,u,h,hs=>by
  obtain⟨c,d⟩:=mb.1 h;have a:=hs x (by simp);have:=tT (l:=l) (u:=u.erase x) d fun y b=>(List.mem_erase_of_ne (fun e=>c (by rw[←e];exact b))).2 (hs y (jS _ b));rw[List.length_erase_of_mem a]at this;have f:0<u.length:=List.length_pos_of_mem a;rw[aU];omega
theorem RA.sc_val{k:aF}{w:World}{v u:Value}(h:RA k w v (.d (.sc u))):v=u:=by have:=h.d_inv;cases this;rfl
structure Cw(LL:Nat→Code→CC→Prop)(N B:Nat)(k0:aF)(w0:World)(D:List Deferred)(L bm r t10:Nat)(ents:Array MapEntry)(fr0:Fr)(J:List Nat→List aa→Prop)(idx:List Nat)(s1:List aa)(k1:aF)(a1:Act)(w1:World):Prop where
 nd:idx.Nodup
 lt: ∀i∈idx,i<L
 inv:J idx s1
 size:a1.tmps.size=N
 marks:Marks w0 w1 k1 D a1.defers
 ext:Ext B k0 w0 k1 w1
 frm:FR k1 w1 a1 ((t10,.d (.sc (.pointer (some ⟨r,0,none⟩))))::fr0)
 st:St LL B k1 s1 w1
 iter: ∃c,L≤c∧w1.heap[r]?=some (.mapIter (some bm) L idx.toArray c)
 map:w1.heap[bm]?=some (.map ents L)
 ur:jy k1 r
 ub:jy k1 bm
set_option maxHeartbeats 1000000 in
theorem Qc{R S:Array Oper}{i3 i4 t10 t11 t12 t13 ob oi:Nat}{rest:Code}{o1 o2 o3:Oper}{l4:List Oper}
  (h3:R.toList=[o1,o2]) (g1:o1.guard=none) (p1:o1.op= .next (.tmp t10) false) (d1:o1.dst=some t11) (g2:o2.guard=none) (p2:o2.op= .extract (.tmp t11) 0) (d2:o2.dst=some t12)
  (h4:S.toList=o3::l4) (g3:o3.guard=none) (p3:o3.op= .entry (.tmp t10)) (d3:o3.dst=some t13)
  (c9:t11<N) (d0:t12<N) (f5:t13<N) (n4: ∀o∈l4,∀d,o.dst=some d→d<N) (f6: ∀o∈l4,eh o=true)
  (hne:t10≠t11∧t10≠t12∧t10≠t13∧t11≠t12) {fr0:Fr} (e4: ∀t y,look fr0 t=some y→t≠t11∧t≠t12∧t≠t13)
  {ag:Bool} {es:List (List Value×AV)} {f:Array MapEntry} {J:List Nat→List aa→Prop} {keyA:List Value→AV} (c0: ∀(k:aF) (w:World) (x:List Value×AV),x∈es→RA k w (fg ag x.1) (keyA x.1))
  {B:Nat} {k0:aF} {w0:World} {D:List Deferred} {O r:Nat} {rr:Option Nat} (hB:B≤w0.heap.size) (hr:w0.heap.size≤r) (f1:pF k0 rd rr)
  (E:f.size=es.length∧ ∀(i:Nat) (e:MapEntry) (x:List Value×AV),f[i]?=some e→es[i]?=some x→e.key=fg ag x.1∧RA k0 w0 e.val x.2∧e.born=i)
  (hround: ∀(c8:Value) (g:List Nat) (i:Nat) (x:List Value×AV) (H:List aa),g.Nodup→i∉g→(∀j∈g,j<es.length)→es[i]?=some x→J g H→ ∃fl U s2,fY LL P S l4 ((t13,.tup [keyA x.1,x.2])::(t10,.d (.sc c8))::fr0) H fl U s2∧
   dG LL P N rd rest U s2 fun e d6 s3=>e= .normal∧(∀t y,look ((t10,.d (.sc c8))::fr0) t=some y→look d6 t=some y)∧J (g++[i]) s3)
  {g:List Nat} {H:List aa} {l:aF} {M:Act} {T:World} (h0:Cw LL N B k0 w0 D es.length O r t10 f fr0 J g H l M T):
  (Code.loop (.seq (.region i3 R false) (.seq (.cond (.tmp t12) .skip (.exit oi)) (.block ob (.seq (.region i4 S false) rest))))).wpIn (FW rr) 0 P
   (fun e' a' w'=>e'= .exit oi∧ ∃g H l,g.length=es.length∧Cw LL N B k0 w0 D es.length O r t10 f fr0 J g H l a' w') M T:=by
 refine wpIn_loop_ghost (fun n a w=> ∃g H l,n=es.length-g.length∧Cw LL N B k0 w0 D es.length O r t10 f fr0 J g H l a w) (es.length-g.length) ⟨g,H,l,rfl,h0⟩ ?_;clear h0;rintro n M T ⟨g,H,l,rfl,h⟩;obtain⟨c,b3,I⟩:=h.iter;have e3:M.eval (.tmp t10)= .pointer (some ⟨r,0,none⟩):=RA.sc_val (h.frm t10 _ (by simp[look]))
 have V: ∀(i:Nat) (e:MapEntry),f[i]?=some e→i<es.length∧ ∃x,es[i]?=some x∧e.key=fg ag x.1∧RA k0 w0 e.val x.2∧e.born=i:=fun i e he=>by
  have hi:=(fK.1 he).1;have b0:i<es.length:=by rw[←E.1];exact hi
  exact⟨b0,es[i],bV b0,E.2 i e _ he (bV b0)⟩
 have c6: ∀x∈f.toList,x.born<es.length:=fun x G=>by
  obtain⟨i,hi⟩:=jR G;obtain⟨l1,y,_,_,_,l2⟩:=V i x (by simpa using hi);rw[l2];exact l1
 have c3:eh o1=true:=by unfold eh;rw[p1]
 have c4:eh o2=true:=by unfold eh;rw[p2]
 have c5:eh o3=true:=by unfold eh;rw[p3]
 have b2:=run_next_at (P:=P) T o1.type r O es.length c g.toArray f es.length I h.map c6 b3
 have d4: ∀(b:Bool) (vs:List Value) (A:World) (QQ:Exit→Act→World→Prop),(Instr.next (.pointer (some ⟨r,0,none⟩)) false o1.type).run P T= .ok (.tuple (.bool b::vs).toArray) A→(∀a2:Act,a2.tmps.size=N→a2.defers=M.defers→a2.eval (.tmp t12)= .bool b→(∀k,FR k A M ((t10,.d (.sc (.pointer (some ⟨r,0,none⟩))))::fr0)→FR k A a2 ((t10,.d (.sc (.pointer (some ⟨r,0,none⟩))))::fr0))→QQ .normal a2 A)→(Code.region i3 R false).wpIn (FW rr) 0 P QQ M T:=by
  intro b vs A QQ m hQ;refine wpIn_region_list ?_;rw[h3];refine wpListIn_plain g1 fun K hK=> ?_;refine Oper.wpIn_mono ?_ (dn.value (v:= .tuple (.bool b::vs).toArray) (Q:=fun v w'=>v= .tuple (.bool b::vs).toArray∧w'=A) (by unfold execOp;rw[p1];refine ee ?_;rw[e3];exact m) ⟨rfl,rfl⟩ c3 rr _);rintro _ A ⟨v,rfl,rfl,rfl⟩;refine hK _ _ (wpListIn_plain g2 fun K2 d8=> ?_)
  have d5:(M.put o1.dst (.tuple (.bool b::vs).toArray)).eval (.tmp t11)= .tuple (.bool b::vs).toArray:=by
   rw[d1];show(M.put (some t11) (.tuple (.bool b::vs).toArray)).tmps.getD t11 undef= .tuple (.bool b::vs).toArray;rw[rk _ _ _ (by rw[h.size];exact c9),if_pos rfl]
  refine Oper.wpIn_mono ?_ (dn.value (v:= .bool b) (Q:=fun v w'=>v= .bool b∧w'=A) (by unfold execOp;rw[p2];refine ee ?_;rw[d5];simp[Instr.extract]) ⟨rfl,rfl⟩ c4 rr _);rintro _ w' ⟨v,rfl,rfl,rfl⟩;refine d8 _ _ (wpListIn_nil (hQ _ (by rw[lH,lH];exact h.size) (by rw[oT,oT]) ?_ fun k hf=> ?_))
  ·rw[d2];show((M.put o1.dst (.tuple (.bool b::vs).toArray)).put (some t12) (.bool b)).tmps.getD t12 undef= .bool b;rw[rk _ _ _ (by rw[lH,h.size];exact d0),if_pos rfl]
  ·have a5: ∀t x,look ((t10,AV.d (.sc (.pointer (some ⟨r,0,none⟩))))::fr0) t=some x→t≠t11∧t≠t12:=fun t x G=>by
    unfold look at G;split at G
    ·rename_i e;subst e;exact⟨hne.1,hne.2.1⟩
    ·have:=e4 t x G;exact⟨this.1,this.2.1⟩
   rw[d1,d2];exact(hf.out (by rw[h.size];exact c9) fun t x G=>(a5 t x G).1).out (by rw[lH,h.size];exact d0) fun t x G=>(a5 t x G).2
 refine wpIn_seq ?_;rcases b2 with⟨hz,m⟩|⟨e,hel,w1',hw1',m⟩
 ·refine d4 false [] T _ m fun a2 Y a6 C a7=> ?_;show Code.wpIn _ _ _ _ _ _ _;refine wpIn_seq (wpIn_cond (t:=false) C (wpIn_exit ?_));refine⟨rfl,g,H,l,?_,⟨h.nd,h.lt,h.inv,Y,by rw[a6];exact h.marks,h.ext,a7 l h.frm,h.st,⟨c,b3,I⟩,h.map,h.ur,h.ub⟩⟩;have h1:g.length≤(List.range es.length).length:=tT h.nd fun x G=>ju.2 (h.lt x G)
  have h2:(List.range es.length).length≤g.length:=tT List.nodup_range fun i hi=>by
   have a9:=ju.1 hi;have b8:i<f.size:=by rw[E.1];exact a9
   apply iK;intro e9;have hg:f[i]?=some f[i]:=jL b8;obtain⟨_,_,_,_,_,hb⟩:=V i _ hg;have:f[i]∈leftOf f g.toArray:=by
    unfold leftOf;rw[Array.mem_filter];exact⟨Array.getElem_mem b8,by rw[hb];simpa using e9⟩
   rw[Array.eq_empty_of_size_eq_zero hz]at this;simp at this
  rw[dX]at h1 h2;omega
 ·obtain⟨b4,W⟩:e∈f.toList∧ ¬e.born∈g:=by
   unfold leftOf at hel;rw[Array.toList_filter,List.mem_filter]at hel;exact⟨hel.1,by simpa using hel.2⟩
  obtain⟨i,hi⟩:=jR b4;have a9:f[i]?=some e:=by simpa using hi
  obtain⟨b7,x,G,e5,e6,b9⟩:=V i e a9;rw[b9]at W;have hd:Ext B k0 w0 l w1'∧St LL B l H w1'∧Mono l T l w1'∧w1'.heap=T.heap:=by
   rcases hw1' with rfl|rfl
   ·exact⟨h.ext,h.st,Mono.refl _ _,rfl⟩
   ·exact⟨h.ext.trans (Ext.drew B l T),h.st.drew,(Ext.drew B l T).mono,rfl⟩
  obtain⟨e2,f2,e7,p⟩:=hd;obtain⟨A,Z⟩: ∃A,A=setBlock w1' r (.mapIter (some O) es.length (g.toArray.push e.born) es.length):=⟨_,rfl⟩
  obtain⟨C,Y,c2⟩:=setIter (.mapIter (some O) es.length (g.toArray.push e.born) es.length) e2 f2 hB hr (by rw[p];exact I) h.ur;rw[←Z]at C Y c2 m;have f0:O≠r:=fun e=>by have:=h.map;rw[e,I]at this;cases this
  have F:A.heap[r]?=some (.mapIter (some O) es.length (g.toArray.push e.born) es.length):=by rw[Z];exact Pr (by rw[p];exact jd I)
  have q:A.heap[O]?=some (.map f es.length):=by rw[Z,rn f0,p];exact h.map
  have d9:Marks w0 A l D M.defers:=by
   obtain⟨ms,q1,q2,q3⟩:=h.marks;refine⟨ms,q1,q2,fun b hb=> ?_⟩;obtain⟨q4,q5,q6⟩:=q3 b hb;refine⟨q4,?_,q6⟩;have e0:b≠r:=fun e=>by rw[e,I]at q5;cases q5
   rw[Z,rn e0,p];exact q5
  have e8:(f.toList.map (·.born)).Nodup:=by
   have e1:f.toList.map (·.born)=List.range f.size:=by
    apply fy;intro j;rw[cC];by_cases X:j<f.size
    ·have hg:f[j]?=some f[j]:=jL X;obtain⟨_,_,_,_,_,hb⟩:=V j _ hg;rw[nP,hg,nV X,eY,hb]
    ·rw[nP,Array.getElem?_eq_none a8,fZ (by simp;omega)];rfl
   rw[e1];exact List.nodup_range
  obtain⟨fl,U,s2,hA,hR⟩:=hround (.pointer (some ⟨r,0,none⟩)) g i x H h.nd W h.lt G h.inv;refine d4 true [e.key,e.val] A _ m fun a2 c7 a6 b5 a7=> ?_;have a0:=a7 l (h.frm.mono (e7.trans c2));show Code.wpIn _ _ _ _ _ _ _;refine wpIn_seq (wpIn_cond (t:=true) b5 (wpIn_skip ?_));show Code.wpIn _ _ _ _ _ _ _
  refine wpIn_block (wpIn_seq (wpIn_mono (wpIn_region_list (Q:=pD LL B N a2.defers l A (fun e fr s=>e= .normal∧fr=U∧s=s2)) ?_) ?_))
  ·rw[h4];refine wpListIn_plain g3 fun K hK=> ?_;have b6:a2.eval (.tmp t10)= .pointer (some ⟨r,0,none⟩):=RA.sc_val (a0 t10 _ (by simp[look]))
   refine Oper.wpIn_mono ?_ (dn.value (v:= .tuple #[e.key,e.val]) (Q:=fun v w'=>v= .tuple #[e.key,e.val]∧w'=A) (by unfold execOp;rw[p3];refine ee ?_;rw[b6];exact run_entry_at A r O es.length g.toArray f es.length e F q b4 e8) ⟨rfl,rfl⟩ c5 rr _);rintro _ w3 ⟨v,rfl,rfl,rfl⟩;have f3:=bT G
   refine hK _ _ (FC hA ⟨rfl,rfl,rfl⟩ n4 f6 l _ w3 (by rw[lH];exact c7) (by rw[oT]) ?_ Y (Ext.refl B l w3));rw[d3];refine a0.put (dst:=some t13) (RA.tup (us:=[e.key,e.val]) rfl fun j u c hu hc=> ?_) fun d hd=>by cases hd;rw[c7];exact f5
   match j with
   |0=>simp at hu hc;subst hu;subst hc;rw[e5];exact c0 _ _ x f3
   |1=>simp at hu hc;subst hu;subst hc;exact e6.mono C.mono
   |j+2=>simp at hu
  ·rintro _ a3 w3 ⟨_,_,k3,⟨rfl,rfl,rfl⟩,q1,q2,q3,q4,q5⟩;show Code.wpIn _ _ _ _ _ _ _;refine wpIn_mono (hR B k3 a3 w3 rr ((f1.mono C.mono).mono q3.mono) q1 q4 q5) ?_;rintro _ a4 w4 ⟨f7,s4,⟨rfl,b1,d7⟩,_,k4,l1,l2,l3,f4,l5⟩;have L:=q3.trans l3;show∃n',_∧ ∃g H l,_
   have c1:(i::g).length≤(List.range es.length).length:=tT (mb.2 ⟨W,h.nd⟩) fun y hy=>ju.2 (by rcases bY.1 hy with rfl|hy;exact b7;exact h.lt y hy);rw[dX,aU]at c1
   refine⟨es.length-(g++[i]).length,by rw[aN,qP];omega,g++[i],s4,k4,rfl,⟨?_,?_,d7,l1,?_,C.trans L,fun t y hy=>f4 t y (b1 t y hy),l5,⟨es.length,bh _,?_⟩,?_,L.unowned (jd F) h.ur,L.unowned (jd q) h.ub⟩⟩
   ·exact List.nodup_append.2 ⟨h.nd,by simp,fun y hy z hz e=>W (by rw[pw]at hz;rw[←hz,←e];exact hy)⟩
   ·intro j X;rcases fL.1 X with X|X
    ·exact h.lt j X
    ·rw[pw]at X;subst X;exact b7
   ·have m1:Marks A w3 k3 M.defers a3.defers:=Marks.same (by rw[q2,a6]);exact d9.trans C.below.size L (m1.trans q3.below.size l3 l2)
   ·rw[L.rest r (jd F) h.ur,F,b9];simp
   ·rw[L.rest O (jd q) h.ub,q]
set_option maxHeartbeats 1000000 in
theorem dG.map{R S z:Array Oper}{i2 i3 i4 t0 t9 t10 t11 t12 t13 ob oi:Nat}{rest:Code}{X Y o1 o2 o3:Oper}{l4:List Oper}{T kt et:TypeId}
  (h2:R.toList=[X,Y]) (ga:X.guard=none) (pa:X.op= .move (.tmp t0)) (da:X.dst=some t9) (gc:Y.guard=none) (pc:Y.op= .range T (.tmp t9)) (dc:Y.dst=some t10) (hT:P.underlying T=some (.map kt et))
  (h3:S.toList=[o1,o2]) (g1:o1.guard=none) (p1:o1.op= .next (.tmp t10) false) (d1:o1.dst=some t11) (g2:o2.guard=none) (p2:o2.op= .extract (.tmp t11) 0) (d2:o2.dst=some t12)
  (h4:z.toList=o3::l4) (g3:o3.guard=none) (p3:o3.op= .entry (.tmp t10)) (d3:o3.dst=some t13)
  (n9:t9<N) (c5:t10<N) (c6:t11<N) (c7:t12<N) (c8:t13<N) (n4: ∀o∈l4,∀d,o.dst=some d→d<N) (c9: ∀o∈l4,eh o=true)
  (hne:t10≠t11∧t10≠t12∧t10≠t13∧t11≠t12) {fr fr0:Fr} (b7: ∀t y,look fr0 t=some y→t≠t11∧t≠t12∧t≠t13) (H: ∀t y,look fr0 t=some y→t≠t9∧t≠t10)
  {g:Nat} {ag:Bool} {es:List (List Value×AV)} {J:List Nat→List aa→Prop} {keyA:List Value→AV} (a1: ∀(k:aF) (w:World) (x:List Value×AV),x∈es→RA k w (fg ag x.1) (keyA x.1)) (a6: ∀x∈es,∃d,x.2= .d d)
  (hround: ∀(a8:Value) (c:List Nat) (i:Nat) (x:List Value×AV) (C:List aa),c.Nodup→i∉c→(∀j∈c,j<es.length)→es[i]?=some x→J c C→ ∃fl Z s2,fY LL P z l4 ((t13,.tup [keyA x.1,x.2])::(t10,.d (.sc a8))::fr0) C fl Z s2∧
   dG LL P N rd rest Z s2 fun e a9 s3=>e= .normal∧(∀t y,look ((t10,.d (.sc a8))::fr0) t=some y→look a9 t=some y)∧J (c++[i]) s3)
  {s s2:List aa} (b5:look fr t0=some (.mp g)) (hg:s[g]?=some (.map ag es)) (b9:s2.length=s.length) (b8:s2[g]?=some .hole) (U: ∀(id:Nat) (x:aa),id≠g→s2[id]?=some x→x= .junk∨(s[id]?=some x∧uG g x))
  (c0:rd≠some g) (a0: ∀(k:aF) (w:World) (a:Act),FR k w a fr→FR ⟨k.I,k.own.set g .hole⟩ w a fr0) (b1:J [] s2) (b2: ∀c C,J c C→C[g]?=some .hole)
  {Q:Exit→Fr→List aa→Prop} (hQ: ∀(c:List Nat) (C:List aa),c.Nodup→c.length=es.length→(∀i∈c,i<es.length)→J c C→Q .normal fr0 (C.set g (.map ag es))):
  dG LL P N rd (.seq (.region i2 R false) (.block oi (.loop (.seq (.region i3 S false) (.seq (.cond (.tmp t12) .skip (.exit oi)) (.block ob (.seq (.region i4 z false) rest))))))) fr s Q:=by
 intro B k a w rr V F L c1;obtain⟨p,G,M,m,u,hI,b0,c2,f⟩:=c1.aside hg b9 b8 U;have a3:eh X=true:=by unfold eh;rw[pa]
 have a4:eh Y=true:=by unfold eh;rw[pc]
 have b4:a.eval (.tmp t0)= .map (some p):=by
  obtain⟨b,hb,hv⟩:=(L t0 _ b5).mp_inv;rw[M]at hb;cases hb;exact hv
 refine wpIn_seq (wpIn_region_list ?_);rw[h2];refine wpListIn_plain ga fun K hK=> ?_;refine Oper.wpIn_mono ?_ (dn.value (v:= .map (some p)) (Q:=fun v w'=>v= .map (some p)∧w'=w) (by unfold execOp;rw[pa];simp[b4]) ⟨rfl,rfl⟩ a3 rr _);rintro _ n ⟨v,rfl,rfl,rfl⟩;refine hK _ _ (wpListIn_plain gc fun K2 b3=> ?_);have e9:(a.put X.dst (.map (some p))).eval (.tmp t9)= .map (some p):=by
  rw[da];show(a.put (some t9) (.map (some p))).tmps.getD t9 undef= .map (some p);rw[rk _ _ _ (by rw[F];exact n9),if_pos rfl]
 refine Oper.wpIn_mono ?_ (dn.value (v:= .pointer (some ⟨n.heap.size,0,none⟩)) (Q:=fun v w'=>v= .pointer (some ⟨n.heap.size,0,none⟩)∧w'=n.alloc (.mapIter (some p) es.length #[] es.length)) (by unfold execOp;rw[pc];refine ee ?_;rw[e9];exact run_range_map n T kt et p G es.length hT m) ⟨rfl,rfl⟩ a4 rr _);rintro _ w2 ⟨v,rfl,rfl,a7⟩;refine b3 _ _ (wpListIn_nil ?_)
 show Code.wpIn _ _ _ _ _ _ _;have r:Below n.heap.size n w2:=by rw[a7];exact(Below.refl _ _).alloc (bh _) _
 have O:Ext B ⟨k.I,k.own.set g .hole⟩ n ⟨k.I,k.own.set g .hole⟩ w2:=Ext.fresh' f.base r (fun _ _=>rfl) _ (fun id o h=>⟨o,h,de.refl o⟩) (fun id o b h hb _=>⟨o,h,hb⟩);have a5:St LL B ⟨k.I,k.own.set g .hole⟩ s2 w2:=f.same O.mono r.size rfl (fun b hb=>⟨r.block b (f.owned hb).2,rfl⟩) (fun b hb=>r.block b (mS hb f.base))
 have c3:jy ⟨k.I,k.own.set g .hole⟩ n.heap.size:=fun id o A E=>Nat.lt_irrefl _ (f.lies id o _ A E).2;have W: ∀(i:Nat) (e:MapEntry) (x:List Value×AV),G[i]?=some e→es[i]?=some x→e.key=fg ag x.1∧RA ⟨k.I,k.own.set g .hole⟩ n e.val x.2∧e.born=i:=fun i e x he O=>by
  obtain⟨l1,l2,l3⟩:=u.2.2 i e x he O;obtain⟨d,hd⟩:=a6 x (bT O);rw[hd]at l2⊢;exact⟨l1,.d l2.d_inv,l3⟩
 have b6:FR ⟨k.I,k.own.set g .hole⟩ w2 ((a.put X.dst (.map (some p))).put Y.dst (.pointer (some ⟨n.heap.size,0,none⟩))) ((t10,.d (.sc (.pointer (some ⟨n.heap.size,0,none⟩))))::fr0):=by
  have f1:=((a0 k n a L).mono O.mono).out (d:=t9) (v:= .map (some p)) (by rw[F];exact n9) fun t x O=>(H t x O).1;rw[da,dc];exact f1.put (dst:=some t10) (.d (RD.sc _)) fun d hd=>by cases hd;rw[lH,F];exact c5
 refine wpIn_block (wpIn_mono (Qc (N:=N) (rd:=rd) (D:=a.defers) h3 g1 p1 d1 g2 p2 d2 h4 g3 p3 d3 c6 c7 c8 n4 c9 hne b7 a1 f.base (bh _) ?_ ⟨u.1,W⟩ hround (h0:=⟨List.nodup_nil,fun _ h=>(by cases h),b1,by rw[lH,lH];exact F,Marks.same (by rw[oT,oT]),O,b6,a5,⟨es.length,bh _,by rw[a7];exact heap_alloc_new n _⟩,by rw[r.block p (jd m)];exact m,c3,c2⟩)) ?_)
 ·cases rd with
  |none=>cases rr with
   |none=>trivial
   |some l=>exact V.elim
  |some id=>
   cases rr with
   |none=>exact V.elim
   |some l=>exact(bs fun e=>c0 (by rw[e])).trans V
 ·rintro e' a' w' ⟨rfl,c,C,k1,a2,q⟩;show(if oi=oi then _ else _);rw[if_pos rfl];obtain⟨k3,m1,m2,m3,m4⟩:=St.back M u m b0 q.ext q.st (b2 _ _ q.inv) q.map q.ub;refine⟨fr0,_,hQ c C q.nd a2 q.lt q.inv,rfl,k3,q.size,?_,m2,fun t y hy=> ?_,m3⟩
  ·obtain⟨ms,q1,q2,q3⟩:=q.marks;refine⟨ms,q1,q2,fun b hb=> ?_⟩;obtain⟨q4,q5,q6⟩:=q3 b hb;refine⟨q4,q5,fun id o A E=> ?_⟩;rw[m4]at A;by_cases e:id=g
   ·subst e;rw[ey]at A;simp only[if_true]at A;split at A
    ·obtain rfl:=az A;cases E;have:=jd m;omega
    ·cases A
   ·rw[bs (Ne.symm e)]at A;exact q6 id o A E
  ·have c4:look ((t10,AV.d (.sc (.pointer (some ⟨n.heap.size,0,none⟩))))::fr0) t=some y:=by
    unfold look;rw[if_neg (Ne.symm (H t y hy).2)];exact hy
   exact(q.frm t y c4).mono m1
def gA(b:Nat→Code→CC→Prop)(P:Program)(N:Nat)(ops:Array Oper)(l:List Oper)(fr:Fr)(s:List aa)(Q:Exit→Fr→List aa→Prop):Prop:=
 ∀(B:Nat) (D:List Deferred) (r:Option Nat) (c:aF) (d:World) (k:aF) (a:Act) (w:World),a.tmps.size=N→a.defers=D→FR k w a fr→St b B k s w→Ext B c d k w→wpListIn (FW r) 0 P ops (pD b B N D c d Q) l a w
def Cm(b:Nat→Code→CC→Prop)(P:Program)(o:Oper)(fr:Fr)(s:List aa)(K:AV→List aa→Prop):Prop:=
 ∀(B:Nat) (k:aF) (a:Act) (w:World),iM k w a o fr→St b B k s w→dn P o a w fun v w'=> ∃d c,K d c∧ ∃k',RA k' w' v d∧Ext B k w k' w'∧St b B k' c w'
theorem gA.nil{ops:Array Oper}{fr:Fr}{s:List aa}{Q:Exit→Fr→List aa→Prop}(h:Q .normal fr s):gA LL P N ops [] fr s Q:=fun B D r f g k a w ha b d e c=>⟨fr,s,k,h,ha,b,c,d,e⟩
theorem gA.stepN{ops:Array Oper}{o:Oper}{rest:List Oper}{fr:Fr}{s:List aa}{Q:Exit→Fr→List aa→Prop}{K:AV→List aa→Prop}(hg:gd ops fr o=some true)(f:eh o=true)(j: ∀d,o.dst=some d→d<N)(p:Cm LL P o fr s K)
  (h: ∀d c,K d c→gA LL P N ops rest (cG fr o.dst d) c Q):gA LL P N ops (o::rest) fr s Q:=fun B D r z A k a w ha l e q m=>by
 refine wpListIn_step fun K i=> ?_;rw[if_pos (yf hg fun t x _ y=>e t x y)];refine Oper.wpIn_mono ?_ (p B _ _ _ (e.ops _) q f r _);rintro _ w' ⟨v,rfl,d,c,n,k',u,b,g⟩;exact i _ _ (h d c n B D r z A k' _ w' (by rw[lH,ha]) (by rw[oT,l]) ((e.mono b.mono).put u (by rw[ha];exact j)) g (m.trans b))
theorem bq.toN{o:Oper}{fr:Fr}{s b:List aa}{d:AV}(h:bq LL P o fr s d b):Cm LL P o fr s fun e p=>e=d∧p=b:=fun B k a w m n l r c=>
 Oper.wpIn_mono (fun q w' ⟨v,f,k',g,i,j⟩=>⟨v,f,d,b,⟨rfl,rfl⟩,k',g,i,j⟩) (h B k a w m n l r c)
theorem gA.step{ops:Array Oper}{o:Oper}{rest:List Oper}{fr:Fr}{s b:List aa}{d:AV}{Q:Exit→Fr→List aa→Prop}(hg:gd ops fr o=some true)(a:eh o=true)(f: ∀d,o.dst=some d→d<N)(g:bq LL P o fr s d b)
 (h:gA LL P N ops rest (cG fr o.dst d) b Q):gA LL P N ops (o::rest) fr s Q:= .stepN hg a f g.toN fun i j ⟨c,e⟩=>by subst c;subst e;exact h
theorem dG.region{ops:Array Oper}{id:Nat}{fr:Fr}{s:List aa}{Q:Exit→Fr→List aa→Prop}(h:gA LL P N ops ops.toList fr s fun e fr s=>e= .normal∧Q .normal fr s):dG LL P N rd (.region id ops false) fr s Q:=fun B k a w r h0 b c d=>
 wpIn_mono (wpIn_region_list (h B a.defers r k w k a w b rfl c d (Ext.refl B k w))) fun e p w' ⟨fr',o,k',⟨f,g⟩,i,j,l,m,n⟩=>by
  subst f;exact⟨fr',o,g,rfl,k',i,Marks.same j,l,m,n⟩
theorem DT{o:Oper}{fr:Fr}{s:List aa}{f:FuncId}{ps:Array Operand}{ts:Array TypeId}{xs:List X}{vs:List AV}{K:AV→List aa→Prop}(n:o.op= .call {callee:= .value (.func f),args:=ps,argTypes:=ts})
  (y:gL P ts.toList ps.toList=some xs) (x:jb fr xs=some vs) (h:j2 LL P f vs s K):Cm LL P o fr s K:=by
 intro B k a w i m l r E;refine⟨fun f _=>qO r f,?_⟩;rw[uF,BX l];have b:eT k w (ps.toList.map a.eval) vs:=xX i y (fun q p=>by rw[n];simp only[Op.operands,Call.operands];simp at p⊢;exact .inr p) x;have c:ps.map a.eval=(ps.toList.map a.eval).toArray:=by apply Array.ext';simp
 have g:(FW r).depth.isSome=true→1≤0:=fun h=>by rw[Cs]at h;cases h
 have u:a.eval (.func f)= .func (.func f) #[] #[]:=rfl;have j:(execOp a.eval o).run P w= .ok (.enter f (ps.toList.map a.eval).toArray) w:=by
  unfold execOp;rw[n];simp only[resolve,u,Deferred.ofValue,bC,bX,bI,invoke];have: #[]++Array.map a.eval ps++ #[]=(ps.toList.map a.eval).toArray:=by rw[c];simp
  rw[this];exact h.enters _ w
 rw[j,Oper.uponIn_enter];refine⟨g,CW (nT (h.calls B k w _ m b) ?_)⟩;rintro e w' ⟨d,D,t,v,k',rfl,z,A,C⟩;exact⟨v,rfl,d,D,t,k',z,A,C⟩
theorem j2.ofK{f:FuncId}{xs:List AV}{s:List aa}{K:AV→List aa→Prop}(h:aT P f xs s K):j2 (dx P) P f xs s K:=
 let⟨d,n,c,m⟩:=h;⟨c.enters,fun B k w vs a b=>(c.calls B k w vs a b).mono fun e w' ⟨v,k',g,i,j,l⟩=>⟨d,n,m,v,k',g,i,j,l⟩⟩
theorem aE.of_runsN{f:FuncId}{ds:List D}{r:D}(h:j2 LL P f (ds.map .d) [] fun x m=>bu m 5 x=some r):aE P f ds r:=by
 refine⟨h.enters,fun I w vs o k g=> ?_⟩;have j:St LL w.heap.size ⟨I,[]⟩ [] w:=⟨bh _,rfl,by simp,by simp,by simp,g⟩
 refine nT (h.calls w.heap.size ⟨I,[]⟩ w vs j ⟨by simp[o],fun i u c t hc=> ?_⟩) ?_
 ·rw[cC]at hc;obtain⟨d,n,rfl⟩:=db.1 hc;exact .d (k i u d t n)
 ·rintro e w' ⟨x,m,p,v,k',rfl,y,l,s⟩;refine⟨v,rfl,xO s (I':=ff I w.heap.size w') (fun b q u hb hc=>⟨?_,hc⟩) (fun b q u hb hc=> ?_) 5 x r v p y,l.below⟩
  ·by_cases a:b<w.heap.size
   ·rw[xm _ _ a];have:=l.low b a;rw[this]at hb;exact hb
   ·unfold ff;rw[if_neg a];exact qd hc
  ·unfold ff;rw[if_neg a8];exact qd hc
end
end Go.Bb
