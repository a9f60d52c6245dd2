/- Lemmas. -/
import Derived.Test.YtikhfhjohjfamaaGreatDoorPAR
import Derived.Test.YtikhfhjohjfamaaGreatDoorPAU
set_option linter.unusedVariables false
set_option linter.unusedSimpArgs false
set_option maxRecDepth 100000
namespace Go.Proofs.Q
open Go Go.Bb Go.RowKit Go.Proofs.Lg
open Go.Ab (D RD)
def nT(o:Nat)(s:List aa)(rows:List (ak×FuncId×List AV)):Prop:= ∃v,s[o]?=some (.cells [v])/\((v= .nil 34/\rows=[])\/ ∃r,v= .vec r rows.length 34/\s[r]?=some (.vec 226 34 (rows.flatMap λp=>di p.1 (.clo p.2.1 [] p.2.2))))
theorem Bp{s:List aa}{i:Nat}{o:aa}(h:s[i]?=some o)(l:List aa):(s++l)[i]?=some o:=by
 rw[fP (aV.1 h).1];exact h
theorem Ei{s:List aa}{i:Nat}{o o':aa}(h:s[i]?=some o):(s.set i o')[i]?=some o':=by
 rw[ej (aV.1 h).1]
theorem nT.app{o:Nat}{s:List aa}{rows:List (ak×FuncId×List AV)}(h:nT o s rows)(l:List aa):nT o (s++l) rows:=by
 obtain⟨v,a,b⟩:=h;exact⟨v,Bp a l,b.imp id λ⟨r,c,d⟩=>⟨r,c,Bp d l⟩⟩
set_option maxHeartbeats 1000000 in
theorem C0{o:Nat}{s:List aa}{rows:List (ak×FuncId×List AV)}(h:nT o s rows)(B:rows.length<=1000000)(x:ak)(f:FuncId)(cs:List AV):
  bs Tryz.prog 266 [.d (.agg (ae x)),.clo f [] cs,.ptr o 0] s λd A=>d= .tup []/\nT o A (if isZero x.p=true then rows else rows++[(x,f,cs)]):=by
 obtain⟨v,g,t⟩:=h;have z:=(aV.1 g).1;have n:=λl=>Bp g l;by_cases i:isZero x.p=true
 .rw[if_pos i];have b:x.p= .zero:=by simpa[isZero]using i
  refine cz Tryz.f266 ?_ [100003,300007,300012]
  repeat' first|refine ab (λ_=> ?_) λ_=> ?_|refine aG (ga @i (ga @b @wj)) trivial ?_|exact aF (ga @i (ga @b @wj)) trivial|fail
  all_goals first|exact⟨rfl,v,g,t⟩|exact⟨v,g,t⟩|trace_state
 .rw[if_neg i];have m:isZero x.p=false:=by simpa using i
  have b:x.p≠ .zero:=by simpa[isZero]using i
  rcases t with⟨rfl,rfl⟩|⟨r,rfl,j⟩
  .refine cz Tryz.f266 ?_ [100003,300007,300012]
   repeat' first|simp only[m,b,g,n,D1,Ci,fv,zX,oy,qu,jm,FO]|refine ab (λ_=> ?_) λ_=> ?_|refine aG @wj trivial ?_|exact aF @wj trivial|fail
   .refine⟨_,Ei (n _),.inr ⟨s.length+1,rfl,?_⟩⟩;rw[bC a8,iY a8,nQ];simp
   .rename_i h;exact h.elim
  .have y:=Cr rows;have u:bw (rows.length+1) 48=true:=room_le a8 a8;have q:=λl=>Bp j l;have k:r≠o:=λe=>by rw[e,g]at j;cases j
   have w: ∀(l:List aa) (c:aa),((s++l).set r c)[o]?=some (.cells [.vec r rows.length 34]):=λl c=>by rw[bC k];exact n l
   have a:(rows++[(x,f,cs)]).flatMap (λp=>di p.1 (.clo p.2.1 [] p.2.2))=(rows.flatMap λp=>di p.1 (.clo p.2.1 [] p.2.2))++di x (.clo f [] cs):=by rw[List.flatMap_append];simp
   generalize(rows.flatMap λp=>di p.1 (.clo p.2.1 [] p.2.2))=cells at j q y a;refine cz Tryz.f266 ?_ [100003,300007,300012]
   repeat' first|simp only[m,b,g,n,j,q,w,y,u,D1,Ci,fv,zX,oy,qu,jm,FO]|refine ab (λ_=> ?_) λ_=> ?_|refine aG @wj trivial ?_|exact aF @wj trivial|fail
   .refine⟨_,Ei (w _ _),.inr ⟨r,by simp,?_⟩⟩;rw[bC (Ne.symm k),Ei (q _),a]
   .rename_i h;exact h.elim
end Go.Proofs.Q
namespace Go.Proofs.Lh
open Go Go.Ab Go.Bb Go.RowKit Go.Proofs.Lg
theorem PN{α β:Type}{o:Option α}{f:α->Option β}{y:β}(h:o.bind f=some y): ∃x,o=some x/\f x=some y:=by
 cases o with
 |none=>cases h
 |some x=>exact⟨x,rfl,h⟩
theorem BB{α:Type}{p:Prop}[Decidable p]{x:Option α}{y:α}(h:(if p then x else none)=some y):p/\x=some y:=by
 by_cases hp:p
 .rw[if_pos hp]at h;exact⟨hp,h⟩
 .rw[if_neg hp]at h;cases h
theorem Th{α β:Type}{o:Option α}{f:α->β}{y:β}(h:o.map f=some y): ∃x,o=some x/\f x=y:=by
 cases o with
 |none=>cases h
 |some x=>exact⟨x,rfl,aJ h⟩
section
variable {LL:Nat->Code->CC->Prop} {s:List aa}
theorem P0{k:aP}{w:World}{us:List Value}{ds:List AV}(h:bZ k w us ds){i:Nat}{u:Value}{x:AV}(f:u.oneCell'=true)(g:RA k w u x):bZ k w (us.set i u) (ds.set i x):=by
 refine⟨by simp[h.1],λv a=> ?_,λj v d a b=> ?_⟩
 .rcases List.mem_or_eq_of_mem_set a with a|rfl
  .exact h.2.1 v a
  .exact f
 .rw[fB]at a b;by_cases e:i=j
  .rw[if_pos e]at a b;split at a
   .rename_i c;rw[if_pos (by rw[<-h.1];exact c)]at b;cases a;cases b;exact g
   .cases a
  .rw[if_neg e]at a b;exact h.2.2 j v d a b
theorem Gk{B:Nat}{k:aP}{w:World}(c:St LL B k s w){id t:Nat}{ds:List AV}{b:Nat}(h:s[id]?=some (.tcells t ds))(hb:k.own[id]?=some (.blk b)){i:Nat}{u:Value}{x:AV}(q:u.oneCell'=true)(r:RA k w u x):
  Ext B k w k (w.setCell ⟨b,i,none⟩ u)/\St LL B k (s.set id (.tcells t (ds.set i x))) (w.setCell ⟨b,i,none⟩ u):=by
 obtain⟨v,us,l,m,o,n⟩:=c.tcells h;rw[hb]at l;cases l;have a:=c.lies id _ b hb rfl;rw[setCell_eq_setRow w b i _ t (0,0) u m];obtain⟨hk,g⟩:=BC (k:=k) (w:=w) (cs:=us.toArray.setIfInBounds i u) a.1 n;have d:=sS hk
 exact c.upd (k':=k) hb (.tcells t (ds.set i x)) (rz hb) (dM.refl _) hk g (λj f=>by cases f;exact⟨.inl rfl,by rw[setRow_size];exact a.2,a.1⟩)
  (λj p hne=>⟨setRow_other w b j _ (λe=>hne (by rw[e];rfl)),rfl⟩)
  ⟨us.set i u,by rw[setRow_heap w b _ _ t (0,0) m];simp,P0 (o.mono d) q (r.mono d),n⟩
def fH(l:List UInt8):List (List D):=l.map λx=>[.sc (.int .u8 x.toNat)]
theorem byteRows_flat(l:List UInt8):(fH l).flatten=l.map λx=>D.sc (.int .u8 x.toNat):=by
 unfold fH
 induction l with
 |nil=>rfl
 |cons y l a=>simp[a]
theorem Hr(I:Nat->Nat)(w:World)(l:List UInt8):dA I w (l.map λx=>Value.int .u8 x.toNat) (fH l).flatten:=by
 rw[byteRows_flat];refine⟨by simp,λu a=> ?_,λi u d a b=> ?_⟩
 .obtain⟨y,_,rfl⟩:=bM.1 a;rfl
 .rw[dj]at a b;obtain⟨y,c,rfl⟩:=dy.1 a;rw[c]at b;cases b;exact .sc _
theorem Hs(l:List UInt8): ∀r∈fH l,r.length=1:=λr a=>by
 unfold fH at a;obtain⟨y,_,rfl⟩:=bM.1 a;rfl
def wH(id:Nat):AV->Bool
 | .d (.sc (.pointer none))=>true
 | .ptr i 0=>i==id
 |_=>false
theorem KC{k:aP}{w:World}{id b:Nat}{p:Value}{a:AV}(h:wH id a=true)(d:RA k w p a)(hb:k.own[id]?=some (.blk b)):p= .pointer none\/p=self b:=by
 unfold wH at h;split at h
 .have:=d.d_inv;cases this;exact .inl rfl
 .rename_i i;obtain rfl:i=id:=by simpa using h
  obtain⟨f,c,e⟩:=d.ptr_inv;rw[hb]at c;cases c;exact .inr e
 .cases h
def tH(s:List aa)(id:Nat)(a:AV)(l:List UInt8):AV->Option (List aa)
 | .nil 1=>if wH id a=true/\0<l.length/\l.length<=140737488355328 then some (((s.set id (.tcells 361 [.ptr id 0,.nil 1]))++[aa.row 5 1 l.length]).set id (.tcells 361 [.ptr id 0,.tsl s.length 1 (fH l)]))else none
 | .tsl id2 1 rows=>if wH id a=true/\gU 5 1 rows.length s[id2]?=true/\rows.length+l.length<=140737488355328 then
  some (((s.set id (.tcells 361 [.ptr id 0,.tsl id2 1 rows])).set id2 (.row 5 1 (rows.length+l.length))).set id (.tcells 361 [.ptr id 0,.tsl id2 1 (rows++fH l)]))else none
 |_=>none
theorem Ho{B:Nat}{k:aP}{w:World}(C:St LL B k s w){id:Nat}{a S:AV}{l:List UInt8}{s':List aa}(J:s[id]?=some (.tcells 361 [a,S]))(o:tH s id a l S=some s'){b:Nat}(hb:k.own[id]?=some (.blk b)):
  ∃p v n xs,w.heap[b]?=some (.cells #[p,v] 361 (0,0))/\(p= .pointer none\/p=self b)/\eK w B 5 1 v n xs/\v.ownBlock≠some b/\(∀g,v.ownBlock=some g->g<w.heap.size)/\n+l.length<=140737488355328/\
   ∀(d t:World) (f:Value),Below (w.setCell ⟨b,0,none⟩ (self b)).heap.size (w.setCell ⟨b,0,none⟩ (self b)) d->rZ d t B n l.length v f (xs++l.map λx=>Value.int .u8 x.toNat)->
    ∃k',Ext B k w k' (t.setCell ⟨b,1,none⟩ f)/\St LL B k' s' (t.setCell ⟨b,1,none⟩ f):=by
 obtain⟨b',us,g1,g2,g3,g4⟩:=C.tcells J;rw[hb]at g1;cases g1;obtain⟨p,v,rfl⟩: ∃p v,us=[p,v]:=by
  have:=g3.1
  match us,this with
  |[p,v],_=>exact⟨p,v,rfl⟩
 have hp:=g3.2.2 0 p a rfl rfl;have hv:=g3.2.2 1 v S rfl rfl;have a7:w.heap[b]?=some (.cells #[p,v] 361 (0,0)):=g2;have b9:RA k w (self b) (.ptr id 0):= .ptr hb;obtain⟨E,G⟩:=Gk C J hb (i:=0) (u:=self b) rfl b9;have D:=(aV.1 J).1;have c1:=G5 a7 (self b);unfold tH at o;split at o
 ·
  obtain⟨⟨X,b6,b7⟩,o⟩:=BB o;obtain rfl:=aJ o;have d1:=hv.nil_inv;subst d1;refine⟨p,_,0,[],a7,KC X hp hb,eK.of (World.ownsRow_nil w B 5 1),by simp[Value.ownBlock],λg hg=>by simp[Value.ownBlock]at hg,by omega,λd t f y U=> ?_⟩;generalize hw1e:w.setCell ⟨b,0,none⟩ (self b)=w1 at E G c1 y;have O:=Ext.called (k:=k) G.base y
  have H:=G.called y;rcases U with⟨h0,_⟩|⟨_,c,hbl,⟨g,_,hg,_⟩|⟨hg,hlt,j⟩⟩
  .omega
  .cases hg
  .rw[aw,bt]at c;have c7:Below d.heap.size d t:=⟨j.os,j.tape,j.output,j.size,λk hk=>j.block k hk (by simp)⟩
   have hI: ∀b',b'<d.heap.size->dE (gA k.I w1.heap.size d) d.heap.size (l.length*1) b'=gA k.I w1.heap.size d b':=λb' T=>ix _ _ a8;obtain⟨F,L⟩:=H.new c7 hI (.row f l.length) (.row 5 1 l.length) (λb' T=>by rw[show(Own.row f l.length).block=some d.heap.size from hg]at T;cases T;exact⟨bg _,hlt⟩)
    ⟨rfl,⟨_,c⟩,λM h=>by rw[hg]at h;cases h;exact gE ..⟩
   have z:((s.set id (.tcells 361 ([a,.nil 1].set 0 (.ptr id 0))))++[aa.row 5 1 l.length])[id]?=some (.tcells 361 [.ptr id 0,.nil 1]):=by
    rw[fP (by simpa using D),fB,if_pos rfl,if_pos D];rfl
   have Y:(k.own++[Own.row f l.length])[id]?=some (.blk b):=by
    rw[fP (aV.1 hb).1];exact hb
   have a0:RA ⟨dE (gA k.I w1.heap.size d) d.heap.size (l.length*1),k.own++[Own.row f l.length]⟩ t f (.tsl s.length 1 (fH l)):=by
    refine .tsl (uQ c (Hr _ _ l) (by simp[fH]) (Hs l) λM h=> ?_) ⟨f,l.length,by rw[<-C.len];simp,by simp[fH],λ_=>rfl⟩;rw[hg]at h;cases h;exact qN (gE ..).symm
   obtain⟨a',c',a6⟩:=wL c;obtain⟨V,a5⟩:=Gk L z Y (i:=1) (u:=f) (by rw[a6];rfl) a0;exact⟨_,E.trans (O.trans (F.trans V)),a5⟩
 .rename_i id2 rows;obtain⟨⟨X,c0,b7⟩,o⟩:=BB o;obtain rfl:=aJ o;have z:=FT c0;obtain⟨a3,u,n',A,d4,c8⟩:=hv.tsl_inv;obtain⟨v2,xs,b5,c,hI⟩:=C.row z;rw[A]at b5;cases b5;have d2:=c8 rfl;subst d2;have hne:id≠id2:=λe=>by rw[e,z]at J;cases J
  refine⟨p,v,rows.length,xs,a7,KC X hp hb,c,λd0=>C.apart id id2 _ _ b hne hb A rfl d0,λg hg=>(C.lies id2 _ g A hg).2,b7,λd t f y U=> ?_⟩;generalize hw1e:w.setCell ⟨b,0,none⟩ (self b)=w1 at E G c1 y;have O:=Ext.called (k:=k) G.base y;have H:=G.called y
  have hs1id2:(s.set id (.tcells 361 ([a,.tsl id2 1 rows].set 0 (.ptr id 0))))[id2]?=some (.row 5 1 rows.length):=by rw[bC hne];exact z
  obtain⟨vX,d6,W,Z,c6⟩:=H.row hs1id2;have Q:k.own[id2]?=some (.row vX rows.length):=W;rw[A]at Q;obtain rfl:v=vX:=by cases Q;rfl
  have K:RD (gA k.I w1.heap.size d) d v (.sl 1 rows):=a3.mono (E.mono.trans O.mono).keep;have d3:=zt K Z;have d5:=zt a3 c;have a9: ∀(k2:aP) (t:World) (f:Value),Ext B ⟨gA k.I w1.heap.size d,k.own⟩ d k2 t->k2.own=k.own.set id2 (.row f (rows.length+l.length))->
    St LL B k2 ((s.set id (.tcells 361 ([a,.tsl id2 1 rows].set 0 (.ptr id 0)))).set id2 (.row 5 1 (rows.length+l.length))) t->RD k2.I t f (.sl 1 (rows++fH l))->
    ∃k',Ext B k w k' (t.setCell ⟨b,1,none⟩ f)/\St LL B k' (((s.set id (.tcells 361 [.ptr id 0,.tsl id2 1 rows])).set id2 (.row 5 1 (rows.length+l.length))).set id (.tcells 361 [.ptr id 0,.tsl id2 1 (rows++fH l)])) (t.setCell ⟨b,1,none⟩ f):=λk2 t f F b4 L R=>by
   have h2lt:=(aV.1 A).1;have hg:((s.set id (.tcells 361 ([a,.tsl id2 1 rows].set 0 (.ptr id 0)))).set id2 (aa.row 5 1 (rows.length+l.length)))[id]?=some (.tcells 361 [.ptr id 0,.tsl id2 1 rows]):=by
    rw[bC (Ne.symm hne),fB,if_pos rfl,if_pos D];rfl
   have ho:k2.own[id]?=some (.blk b):=by rw[b4,bC (Ne.symm hne)];exact hb
   have a0:RA k2 t f (.tsl id2 1 (rows++fH l)):= .tsl R ⟨f,rows.length+l.length,by rw[b4,fB,if_pos rfl,if_pos h2lt],by simp[fH],λ_=>rfl⟩;obtain⟨a',c',us',a6,_⟩:=R.sl_inv;obtain⟨V,a5⟩:=Gk L hg ho (i:=1) (u:=f) (by rw[a6];rfl) a0;exact⟨_,E.trans (O.trans (F.trans V)),a5⟩
  rcases U with⟨h0,rfl,rfl⟩|⟨hm,hown',hbl,hcase⟩
  .have b6:l=[]:=gV h0;subst b6;refine a9 _ _ _ (Ext.refl B _ _) ?_ ?_ (by simpa[fH]using K)
   .exact rz A
   .have:((s.set id (.tcells 361 ([a,.tsl id2 1 rows].set 0 (.ptr id 0)))).set id2 (aa.row 5 1 (rows.length+([]:List UInt8).length)))=s.set id (.tcells 361 ([a,.tsl id2 1 rows].set 0 (.ptr id 0))):=by
     obtain⟨c4,c5⟩:=aV.1 hs1id2;rw[bc,aB,<-c5];exact Ac c4
    rw[this];exact H
  .have b3: ∀g,v.ownBlock=some g->g≠b:=λg hg e=>C.apart id id2 _ _ b hne hb A rfl (by rw[<-e];exact hg);have m:eK d B 5 1 v rows.length xs:=yW c λg hg=>by
    have c9:g<w1.heap.size:=by
     have:=(C.lies id2 _ g A hg).2;have h2:=E.below.size;omega
    rw[y.block g c9,<-hw1e];exact G6 (b3 g hg)
   have c3:=zt K m;have a4: ∃M,f.ownBlock=some M/\(v.ownBlock=some M\/(M=d.heap.size/\d.heap.size<t.heap.size))/\(∀b,b<d.heap.size->b≠M->t.heap[b]?=d.heap[b]?)/\(v.ownBlock=some M-> ∀q x,q<rows.length*1->d.cell? ⟨M,q,none⟩=some x->t.cell? ⟨M,q,none⟩=some x):=by
    rcases hcase with⟨g,b1,P,j⟩|⟨hg,hlt,j⟩
    .refine⟨g,b1,.inl P,λb hb hne=>j.block b hb (by simpa using hne),λ_ q x hq hc=> ?_⟩;have e1:=m.cells P;have e2:=hown'.cells b1;have hl:=m.1;have c2:xs[q]?=some xs[q]:=bQ a8;have a1:=e1 q _ c2;rw[fW,aw]at a1;rw[a1]at hc;obtain rfl:=aJ hc
     have a2:=e2 q xs[q] (by rw[fP a8];exact c2);rw[fW,aw]at a2;exact a2
    .refine⟨d.heap.size,hg,.inr ⟨rfl,hlt⟩,λb hb _=>j.block b hb (by simp),λP=> ?_⟩;have:=(H.lies id2 _ _ W P).2;omega
   obtain⟨M,h,N,b0,b8⟩:=a4;obtain⟨F,L⟩:=H.grow (x:=(rows.length+l.length)*1) (ob:= .row 5 1 (rows.length+l.length)) W c6 hm a8 hbl h N b0 b8
    λ_=>⟨rfl,⟨_,hown'⟩,λg hg=>by rw[h]at hg;cases hg;exact gE ..⟩
   refine a9 _ _ _ F rfl L (uQ hown' ?_ (by simp[fH]) (λr hr=> ?_) λg b2=> ?_)
   .rw[tS];exact(c3.mono F.keep).append (Hr _ _ l)
   .rcases fk.1 hr with hr|hr
    .exact zu a3 r hr
    .exact Hs l r hr
   .rw[h]at b2;cases b2;exact qN (gE ..).symm
 .cases o
end
end Go.Proofs.Lh
namespace Go.Proofs.Lh
open Go Go.Ab Go.Bb Go.RowKit Go.Proofs.Lg
def qB(s:List aa)(id:Nat):Option (AV×AV):=match s[id]? with
 |some (.tcells 361 [a,b])=>some (a,b)
 |_=>none
theorem Gf{s:List aa}{id:Nat}{p:AV×AV}(h:qB s id=some p):s[id]?=some (.tcells 361 [p.1,p.2]):=by
 unfold qB at h;split at h
 .rename_i a b c;obtain rfl:=aJ h;exact c
 .cases h
theorem GX{s o:List aa}{id:Nat}{p:AV×AV}{b:ByteArray}(hg:qB s id=some p)(h:tH s id p.1 b.data.toList p.2=some o):
  iK (dH Tryz.prog) Tryz.prog 408 [.ptr id 0,.d (.sc (.string b))] s (.d (.tup [.sc (.int .i64 b.size),.sc .nilIface])) o:=by
 refine⟨enters_fn' Tryz.func408 rfl (by rfl),λB k w vs g a=> ?_⟩
 match vs,a with
 |[u,v],a=>
  obtain⟨E,hb,rfl⟩:=(a.2 0 u _ rfl rfl).ptr_inv;have C:=(a.2 1 v _ rfl rfl).d_inv;cases C;obtain⟨G,H,n,xs,q,r,t,x,F,y,z⟩:=Ho g (Gf hg) h hb;have m:b.data.toList.length=b.size:=by rw[ic];rfl
  refine(Pc (B:=B) b q r t x (by rw[<-m];exact y) g.base).mono ?_;rintro e w' ⟨rfl,v2,D,c,rfl⟩;rw[<-m]at c;obtain⟨k',A,l⟩:=z _ D v2 (Below.refl _ _) c;refine⟨_,k',rfl,.d ?_,A,l⟩;refine .tup [.int .i64 b.size,.nilIface] _ rfl λi u d j f=> ?_
  match i,j,f with
  |0,j,f=>cases j;cases f;exact .sc _
  |1,j,f=>cases j;cases f;exact .sc _
theorem GV{s j:List aa}{id:Nat}{p:AV×AV}{c:Int}(hc:0<=c/\c<256)(hg:qB s id=some p)(h:tH s id p.1 [UInt8.ofNat c.toNat] p.2=some j):
  iK (dH Tryz.prog) Tryz.prog 409 [.ptr id 0,.d (.sc (.int .u8 c))] s (.d (.sc .nilIface)) j:=by
 refine⟨enters_fn' Tryz.func409 rfl (by rfl),λB k w vs b a=> ?_⟩
 match vs,a with
 |[u,v],a=>
  obtain⟨C,hb,rfl⟩:=(a.2 0 u _ rfl rfl).ptr_inv;have z:=(a.2 1 v _ rfl rfl).d_inv;cases z;obtain⟨D,E,n,xs,l,m,o,q,r,t,x⟩:=Ho b (Gf hg) h hb;have g:(((UInt8.ofNat c.toNat).toNat:Nat):Int)=c:=by rw[UInt8.toNat_ofNat'];omega
  refine(Pb (B:=B) c l m o q r t b.base).mono ?_;rintro e w' ⟨rfl,v2,A,f,rfl⟩;obtain⟨k',y,i⟩:=x _ A v2 ((Below.refl _ _).alloc (bg _) (.cells #[.int .u8 c] 5)) (by rw[bX,fi,g];exact f);exact⟨_,k',rfl,.d (.sc _),y,i⟩
theorem RO(w:World)(a q:Addr)(n:Nat):(w.freeze a n).cell? q=w.cell? q:=by
 unfold World.freeze;split
 .rfl
 .unfold World.cell?;simp only[xu];by_cases e:a.block=q.block
  .rw[if_pos e];cases h:w.heap[q.block]? with
   |none=>rfl
   |some o=>cases o<;>rfl
  .rw[if_neg e]
theorem RP(w:World)(a:Addr)(n j:Nat)(h:j≠a.block):(w.freeze a n).heap[j]?=w.heap[j]? :=by
 unfold World.freeze;split
 .rfl
 .simp only[xu];rw[if_neg (Ne.symm h)]
theorem RQ(w:World)(a:Addr)(n:Nat):(w.freeze a n).heap.size=w.heap.size:=by
 unfold World.freeze;split
 .rfl
 .simp
def CA(s:List aa)(id:Nat):Option (ByteArray×List aa):=(qB s id).bind λp=>match p.2 with
 | .tsl id2 1 rows=>if gU 5 1 rows.length s[id2]?=true/\0<rows.length then(iS (rows.flatten.map .d)).map λl=>(⟨l.toArray⟩,s.set id2 .junk)else none
 |_=>none
theorem GU{s:List aa}{id:Nat}{p:ByteArray×List aa}(h:CA s id=some p):iK (dH Tryz.prog) Tryz.prog 376 [.ptr id 0] s (.d (.sc (.string p.1))) p.2:=by
 obtain⟨q,hg,G⟩:=PN h;obtain⟨a,X⟩:=q;dsimp only at G;split at G
 .rename_i id2 rows;obtain⟨⟨C,U⟩,Z⟩:=BB G;obtain⟨l,hl,rfl⟩:=Th Z;have t:=FT C;have L:=Gf hg;refine⟨enters_fn' Tryz.func376 rfl (by rfl),λB k w vs m o=> ?_⟩
  match vs,o with
  |[u],o=>
   obtain⟨b,hb,rfl⟩:=(o.2 0 u _ rfl rfl).ptr_inv;obtain⟨V,us,Q,Y,R,g4⟩:=m.tcells L;rw[hb]at Q;cases Q;obtain⟨p,v,rfl⟩: ∃p v,us=[p,v]:=by
    have:=R.1
    match us,this with
    |[p,v],_=>exact⟨p,v,rfl⟩
   have hv:=R.2.2 1 v _ rfl rfl;have D:w.heap[b]?=some (.cells #[p,v] 361 (0,0)):=Y;obtain⟨A,u2,n',i,a0,J⟩:=hv.tsl_inv;obtain⟨v2,xs,y,c,hI⟩:=m.row t;rw[i]at y;cases y;have P:=J rfl;subst P;have F:=zt A c;have E:=Dy (dA.toA (k:=k) F) hl;have O:=zu A;have K:rows.flatten.length=rows.length:=by
    have:=flatten_len rows O;rw[aD]at this;exact this
   have f:l.length=rows.length:=by
    have S:=F.1;rw[E,aM,K]at S;exact S
   rcases c.2 with⟨_,h0⟩|⟨g,cap,cur,fz,hvv,hgB,hgh,hnc,hcm,hcs,htake,hfz⟩
   .omega
   .have z:l≠[]:=λe=>by rw[e]at f;simp at f;omega
    rw[hvv,<-f]at D;have M:g<w.heap.size:=(gy.1 hgh).1;refine(Pa (fz:=fz) l z D hgh (by rw[f];exact hnc) hcm hcs λj x hj=> ?_).mono ?_
    .have:=c.cells (g:=g) (by rw[hvv];rfl) j (.int .u8 x.toNat) (by rw[E,dj,hj];rfl);rw[fW,aw]at this;exact this
    .rintro e w' ⟨rfl,rfl⟩;have hk:jr k.I w k.I (w.drew.freeze ⟨g,0,none⟩ l.length):=λV q u hq hc=>⟨hq,by rw[RO,World.cell?_drew];exact hc⟩
     have H:Below B w (w.drew.freeze ⟨g,0,none⟩ l.length):=Go.Lib.below_freeze (Below.drew (Below.refl B w)) (p:=⟨g,0,none⟩) hgB _;have n:(Own.row v rows.length).block=some g:=by rw[hvv];rfl
     obtain⟨he,N⟩:=m.upd (k':=k) i .junk (rz i) (dM.refl _) hk H (λW r=>by rw[n]at r;cases r;exact⟨.inl n,by rw[RQ];exact M,hgB⟩)
      (λW T hne=>⟨by rw[RP _ _ _ _ (λe=>hne (by rw[n,e]))];rfl,rfl⟩) trivial
     exact⟨_,k,rfl,.d (.sc _),he,N⟩
 .cases G
end Go.Proofs.Lh
namespace Go.Proofs.Q
open Go Go.Bb Go.RowKit Go.Proofs.Lg
open Go.Ab (D RD)
open Go.Proofs.Lh (fH qB tH CA wH GX GV GU)
def l8(s:List aa)(id:Nat)(l:List UInt8):Prop:=(l=[]/\s[id]?=some (.tcells 361 [.d (.sc (.pointer none)),.nil 1]))\/ ∃id2,s[id]?=some (.tcells 361 [.ptr id 0,.tsl id2 1 (fH l)])/\s[id2]?=some (.row 5 1 l.length)/\id≠id2/\l≠[]
theorem l8.more{s:List aa}{id:Nat}{l:List UInt8}(h:l8 s id l)(J:List aa):l8 (s++J) id l:=by
 rcases h with⟨a,b⟩|⟨id2,a,b,h3,h4⟩
 .exact .inl ⟨a,cF b J⟩
 .exact .inr ⟨id2,cF a J,cF b J,h3,h4⟩
theorem Ay(l:List UInt8):(fH l).length=l.length:=by simp[fH]
theorem PZ(a b:List UInt8):fH a++fH b=fH (a++b):=by simp[fH]
theorem Ml{s:List aa}{id2 e sz n:Nat}(h:s[id2]?=some (.row e sz n)):gU e sz n s[id2]?=true:=by rw[h];simp[gU]
theorem Hp{s:List aa}{id:Nat}{l b:List UInt8}(h:l8 s id l)(hb:l=[]->b≠[])(j:l.length+b.length<=140737488355328): ∃p i,qB s id=some p/\tH s id p.1 b p.2=some i/\l8 i id (l++b):=by
 rcases h with⟨rfl,a⟩|⟨id2,h1,a,h3,h4⟩
 .have f:=(aV.1 a).1;have c:=hb rfl;have e:tH s id (.d (.sc (.pointer none))) b (.nil 1)=some (((s.set id (.tcells 361 [.ptr id 0,.nil 1]))++[aa.row 5 1 b.length]).set id (.tcells 361 [.ptr id 0,.tsl s.length 1 (fH b)])):=
   if_pos ⟨rfl,List.length_pos_iff.2 c,by simpa using j⟩
  refine⟨(.d (.sc (.pointer none)),.nil 1),_,by simp[qB,a],e,.inr ⟨s.length,?_,?_,by omega,by simpa using c⟩⟩
  .rw[fB,if_pos rfl,if_pos (by simp;omega)];simp
  .rw[fB,if_neg a8,iY (by simp)];simp
 .have f:=(aV.1 h1).1;have g:=(aV.1 a).1;have e:tH s id (.ptr id 0) b (.tsl id2 1 (fH l))=some (((s.set id (.tcells 361 [.ptr id 0,.tsl id2 1 (fH l)])).set id2 (.row 5 1 ((fH l).length+b.length))).set id (.tcells 361 [.ptr id 0,.tsl id2 1 (fH l++fH b)])):=
   if_pos ⟨by simp[wH],by rw[Ay];exact Ml a,by rw[Ay];omega⟩
  refine⟨(.ptr id 0,.tsl id2 1 (fH l)),_,by simp[qB,h1],e,.inr ⟨id2,?_,?_,h3,by simp[h4]⟩⟩
  .rw[fB,if_pos rfl,if_pos (by simp;omega),PZ]
  .rw[fB,if_neg h3,fB,if_pos rfl,if_pos (by simp;omega),aQ,Ay]
theorem MC{s:List aa}{id:Nat}{l:List UInt8}(h:l8 s id l)(b:bb)(hb:l≠[])(i:l.length+b.size<=140737488355328):bs Tryz.prog 408 [.ptr id 0,.d (dS b)] s λd a=>d= .d (.tup [.sc (.int .i64 b.size),.sc .nilIface])/\l8 a id (l++b.data.toList):=by
 obtain⟨p,a,c,f,g⟩:=Hp h (b:=b.data.toList) (λe=>absurd e hb) (by rw[gJ];exact i);exact⟨_,a,GX c f,rfl,g⟩
theorem G1{s:List aa}{id:Nat}{l:List UInt8}(h:l8 s id l)(c:Nat)(hc:c<256)(i:l.length+1<=140737488355328):bs Tryz.prog 409 [.ptr id 0,.d (.sc (.int .u8 c))] s λd a=>d= .d (.sc .nilIface)/\l8 a id (l++[UInt8.ofNat c]):=by
 obtain⟨p,a,e,f,g⟩:=Hp h (b:=[UInt8.ofNat c]) (λ_=>by simp) (by simpa using i);exact⟨_,a,GV (c:=(c:Int)) a8 e (by simpa using f),rfl,g⟩
theorem Yz{s:List aa}{id:Nat}{l:List UInt8}(h:l8 s id l)(b:l≠[]):bs Tryz.prog 376 [.ptr id 0] s λd g=>d= .d (dS (str l)):=by
 rcases h with⟨a,_⟩|⟨id2,a,h2,h3,h4⟩
 .exact absurd a b
 .have c:CA s id=some (str l,s.set id2 .junk):=by
   unfold CA qB;rw[a];show(if _ then _ else none)=_;rw[Ay,if_pos ⟨Ml h2,List.length_pos_iff.2 b⟩];have hb:iS ((fH l).flatten.map .d)=some l:=by
    rw[Go.Proofs.Lh.byteRows_flat,ll];clear a h2 h3 h4 b
    induction l with
    |nil=>rfl
    |cons x l f=>
     rw[bX,iS];have e:so ((AV.d∘λx:UInt8=>D.sc (.int .u8 x.toNat)) x)=some x:=by
      show(if(0:Int)<=(x.toNat:Int)/\(x.toNat:Int)<256 then some (UInt8.ofNat (x.toNat:Int).toNat)else none)=_;have:=x.toNat_lt;rw[if_pos a8];simp
     rw[e,f];rfl
   rw[hb];rfl
  exact⟨_,_,GU c,rfl⟩
theorem Au(a b:bb):(a++b).data.toList=a.data.toList++b.data.toList:=by rw[xw];simp
theorem tJ(l:List UInt8):(str l).data.toList=l:=by simp[str]
def jf(d:Nat)(x:Sx):List UInt8:=(iq d x).data.toList
theorem IE(d:Nat): ∀(l:List Sx) (s:bb),(l.foldl (λs x=>s++iq d x) s).data.toList=s.data.toList++l.flatMap (jf d)
 |[],s=>by simp
 |x::l,s=>by rw[ig,IE d l,Au,jt,bk];rfl
theorem uk(d:Nat)(l:List Sx):jf (d+1) (.mk true ⟨#[]⟩ l)=40::(l.flatMap (jf d)++[41]):=by
 show(iq (d+1) (.mk true ⟨#[]⟩ l)).data.toList=_;rw[iq,if_pos rfl,Au,IE,tJ,tJ];simp
theorem wa(d:Nat)(a:bb):jf (d+1) (.mk false a [])=(dec a.size).data.toList++(58::a.data.toList):=by
 show(iq (d+1) (.mk false a [])).data.toList=_;rw[iq,if_neg (by simp),Au,Au,tJ,bk];rfl
def lf:Prop:= ∀n:Int,-1099511627776<=n->n<=1099511627776->aI Tryz.prog 131 [dI n] (dS (dec n))
theorem Ag(P:Program)(l:List CO)(K:Fr->List aa->List Nat->Prop)(a:List Nat)(fr:Fr)(s:List aa)(m t:Nat):dO P l K a fr (some t) m s (.d (.sc .nilIface))=cW P l K (m::a) ((t,.d (.sc .nilIface))::fr) s:=propext dK
theorem I9(A:lf): ∀(d:Nat) (x:Sx) (i:Nat) (s:List aa) (l:List UInt8),eX d x->bW d x<=1000000000->l8 s i l->(l≠[]\/x.isL=true)->l.length+(jf d x).length<=1000000000000->
  bs Tryz.prog 375 [.ptr i 0,.d (.agg (aj x))] s λE n=>E=vT/\l8 n i (l++jf d x)
 |0,_,_,_,_,h,_,_,_,_=>h.elim
 |d+1,.mk b a l,i,s,l0,hg0,hn,hs,hl0,hsz=>by
  have y:=I9 A d;rcases id hg0 with⟨rfl,rfl,ha⟩|⟨rfl,rfl,hl⟩
  .have w:l0≠[]:=by rcases hl0 with h|h;exact h;cases h
   rw[wa]at hsz⊢;simp only[aQ,aY,gJ]at hsz;have z:=A a.size a8 a8;have t:=MC hs (dec a.size) w a8;refine cz Tryz.f375 ?_ [100003] [[26,0,24,25]];rw[lT]
   repeat' first|refine ab (λ_=> ?_) λ_=> ?_|(refine af.fn (t.mono ?_);rintro _ D ⟨rfl,e⟩)|refine aG @wj @z ?_|exact aF @wj @z|fail
   have v:=G1 e 58 a8 (by simp only[aQ,gJ];omega)
   repeat' first|refine ab (λ_=> ?_) λ_=> ?_|(refine af.fn (v.mono ?_);rintro _ s2 ⟨rfl,f⟩)|refine aG @wj trivial ?_|exact aF @wj trivial|fail
   have G:=MC f a (by simp) (by simp only[aQ,gJ,oJ];omega)
   repeat' first|refine ab (λ_=> ?_) λ_=> ?_|(refine af.fn (G.mono ?_);rintro _ K ⟨rfl,o⟩)|refine aG (ga @wj @Ag) trivial ?_|exact aF (ga @wj @Ag) trivial|fail
   simp only[bk,xH]at o;exact o
  .have B:bW (d+1) (.mk true ⟨#[]⟩ l)=1+(l.map (bW d)).sum:=rfl;have q:l.length<=(l.map (bW d)).sum:=uY _ λx I=>sV (hl x I);rw[B]at hn;rw[uk]at hsz⊢;simp only[aQ,aY,bc]at hsz
   have t:bs Tryz.prog 409 [.ptr i 0,.d (.sc (.int .u8 40))] s λd n=>d= .d (.sc .nilIface)/\l8 n i (l0++[40]):=G1 hs 40 a8 a8;refine cz Tryz.f375 ?_ [100003] [[26,0,24,25]];rw[lT]
   repeat' first|refine ab (λ_=> ?_) λ_=> ?_|(refine af.fn (t.mono ?_);rintro _ D ⟨rfl,e⟩)|refine aG @wj trivial ?_|exact aF @wj trivial|fail
   refine aC (ga @wj @Ag) trivial ?_;refine aZ.overI l (λk (b:List UInt8×List aa)=>[(26,iN k)]) (λ_ b=>b.2) (λr b=>b.1++r.flatMap (jf d)) (l0++[40]++l.flatMap (jf d)) (λ_ b=>l8 b.2 i b.1/\b.1≠[]) (l0++[40],D) a8 aA aA rfl rfl ⟨e,by simp⟩ (λk b x hg hk p C j g=> ?_) (λb p j g=> ?_)
   .obtain⟨u,b⟩:=b;obtain⟨g,c⟩:=g;dsimp only at j g c;rw[jt,<-bk]at j;have m:=congrArg List.length j;simp only[aQ,aY,bc]at m;have H:=zG (bW d) hg;have hc:=λJ=>y x i (b++J) u (hl x (bR hg)) a8 (g.more J) (.inl c) a8;clear y B q t e hs hg0 hl0
    repeat' first|refine ab (λ_=> ?_) λ_=> ?_|(refine af.fn ((hc _).mono ?_);rintro _ n ⟨rfl,F⟩)|refine aG (ga @p (ga @C (ga @hg (ga @ec (ga @dh @wj))))) trivial ?_|exact aF (ga @p (ga @C (ga @hg (ga @ec (ga @dh @wj))))) trivial|fail
    exact⟨(u++jf d x,n),rfl,by simpa using j,F,by simp[c]⟩
   .obtain⟨u,b⟩:=b;obtain⟨g,c⟩:=g;dsimp only at j g c;rw[vq,bq]at j;have m:=congrArg List.length j;simp only[aQ,aY,bc]at m;have v:bs Tryz.prog 409 [.ptr i 0,.d (.sc (.int .u8 41))] b λd n=>d= .d (.sc .nilIface)/\l8 n i (u++[41]):=G1 g 41 a8 a8
    repeat' first|refine ab (λ_=> ?_) λ_=> ?_|(refine af.fn (v.mono ?_);rintro _ s2 ⟨rfl,f⟩)|refine aG (ga @p @wj) trivial ?_|exact aF (ga @p @wj) trivial|fail
    refine aC (ga @wj @Ag) trivial ?_;rw[<-j]at f;simpa using f
theorem QL(h:lf){l:List Sx}(hg:eX 6 (de l))(j:bW 6 (de l)<=20000)(b:(jM (de l)).size<=1000000000000):aI Tryz.prog 298 [.agg (aj (de l))] (.tup [dS (jM (de l)),dI 0]):=by
 have c:=QK hg j;have i:(jf 6 (de l)).length=(jM (de l)).size:=gJ _;have f:=I9 h 6 (de l) 0 [.tcells 361 [.d (.sc (.pointer none)),.nil 1]] [] hg a8 (.inl ⟨rfl,rfl⟩) (.inr rfl) (by rw[i];simpa using b);refine aL Tryz.f298 ?_ [100001,100005]
 repeat' first|refine ab (λ_=> ?_) λ_=> ?_|(refine af.fn (f.mono ?_);rintro _ k ⟨rfl,a⟩)|refine aG @wj @c ?_|exact aF @wj @c|fail
 have g:=Yz a (by rw[bt];unfold de;rw[uk];simp)
 repeat' first|refine ab (λ_=> ?_) λ_=> ?_|(refine af.fn (g.mono ?_);rintro _ s2 rfl)|refine aG @wj trivial ?_|exact aF @wj trivial|fail
 have e:str ([]++jf 6 (de l))=jM (de l):=by
  rw[bt];unfold jf jM str;simp
 rw[bt]at e;rw[e]
end Go.Proofs.Q
namespace Go.Proofs.Q
open Go Go.Bb Go.RowKit Go.Proofs.Lg
open Go.Ab (D RD)
def cV(l:List ak):List AV:=(l.map dF).flatten.map λv=> .d (.sc v)
theorem r8(l:List ak):cV l=((l.map ae).flatten).map .d:=by
 unfold cV
 induction l with
 |nil=>rfl
 |cons x l a=>
  simp only[bX,gG,fF];rw[a,LR,ll];rfl
theorem MX{s:List aa}{i:Nat}{l:List ak}(A:s[i]?=some (.vec 32 33 (cV l)))(h0:l≠[])(y:l.length<=1000000):
  bs Tryz.prog 214 [.vec i l.length 33,.clo 70 [] []] s λd C=>d= .tup []/\C=s.set i (.vec 32 33 (cV (l.mergeSort ft))):=by
 refine⟨.tup [],_,⟨enters_fn' Tryz.func214 rfl (by rfl),λB k w vs n a=> ?_⟩,rfl,rfl⟩
 match vs,a with
 |[v,f],a=>
  obtain⟨hk,b,r⟩:=n.vecSc A (zO l) a8 (a.2 0 v _ rfl rfl);obtain⟨us,vs,rfl,p,q⟩:=(a.2 1 f _ rfl rfl).clo_inv;obtain rfl:us=[]:=gV p.1;obtain rfl:vs=[]:=gV q.1;rcases b.2 with⟨_,h⟩|⟨g,c,cur,hvv,_⟩
  .exact absurd (gV h) h0
  .subst hvv;refine(P8 l g c B w y h0 b).mono ?_;rintro e w' ⟨rfl,m,o⟩;have x:(l.mergeSort ft).length=l.length:=lj _;obtain⟨t,z⟩:=n.vecPut hk r rfl (by rw[zO,x]) (Ny _) m o;exact⟨_,k,rfl,.tup (us:=[]) rfl (λj u c h=>by simp at h),t,z⟩
theorem Sq(f:AV)(s:List aa):bs Tryz.prog 351 [.nil 33,.d (dI 0),.d (dI 0),f] s λd c=>d= .tup []/\c=s:=by
 have b:IntKind.i64.wrap (0+1)=1:=by rfl
 have a:decide ((1:Int)<0)=false:=by decide
 refine cz Tryz.f351 ?_ [] [[1,3,8,0,2],[9,0,8,1,3,2]];refine aC (ga @b @wj) trivial ?_;refine aZ.tr (λ(_:Unit)=>[(8,.d (dI 1))]) (λ_=>s) (λ_ _=>True) 0 () aA aA rfl trivial ?_;intro m _ _;exact bL (ga @a @wj) trivial
 all_goals first|rfl|exact⟨rfl,rfl⟩
theorem UT(f:FuncId)(s:List aa):bs Tryz.prog 283 [.nil 33,.d (dI 0),.d (dI 0),.d (dI 0),.clo f [] []] s λd e=>d= .tup []/\e=s:=by
 have a:=Sq (.clo f [] []) s;have c:IntKind.i64.wrap (0-0)=0:=by rfl
 have b:decide ((0:Int)<=12)=true:=by decide
 refine cz Tryz.f283 ?_ [] [[4,2,1,0,11,10,3]];refine aC @wj trivial ?_;refine aZ.tr (λ(_:Unit)=>[]) (λ_=>s) (λ_ _=>True) 0 () aA aA rfl trivial ?_;intro m _ _;exact yy (ga @c (ga @b @wj)) @a
 all_goals first|rfl|exact⟨rfl,rfl⟩
theorem Gc(f:FuncId)(s:List aa):bs Tryz.prog 214 [.nil 33,.clo f [] []] s λd c=>d= .tup []/\c=s:=by
 have a:=UT f s;refine cz Tryz.f214 ?_;have b:IntKind.u64.wrap 0=0:=by rfl
 repeat' first|refine ab (λ_=> ?_) λ_=> ?_|refine aG (ga @b @wj) (ga @vJ @a) ?_|exact aF (ga @b @wj) (ga @vJ @a)|fail
 all_goals first|rfl|exact⟨rfl,rfl⟩
end Go.Proofs.Q
