/- Lemmas. -/
import Derived.Test.YtikhfhjohjfamaaGreatDoorPBH
set_option linter.unusedVariables false
set_option linter.unusedSimpArgs false
set_option maxRecDepth 100000
namespace Go.Proofs.Q
open Go Go.Bb Go.RowKit Go.Proofs.Lg
open Go.Ab (D RD)
abbrev eu:=List (Dg×List Dg)
def il(V:eu)(key:Dg)(news:List Dg):eu:=if key∈V.map (·.1)then V.map λe=>if e.1=key then(e.1,e.2++news)else e else V++[(key,news)]
def nc(V:eu)(id:Dg):List Dg->eu
 |[]=>V
 |d::l=>nc (il V d [id]) id l
def kB(s:List aa)(v:AV)(l:List Dg):Prop:=(v= .nil 32/\l=[])\/ ∃r,v= .tsl r 32 (l.map au)/\s[r]?=some (.row 30 32 l.length)
def rowId:AV->Option Nat
 | .tsl r _ _=>some r
 |_=>none
structure TS(n:Nat)(M:MD)(V:eu)(s:List aa):Prop where
 map:s[n]?=some (.map true (cM M))
 keys:M.map (·.1)=V.map (·.1)
 nd:(V.map (·.1)).Nodup
 row: ∀(j:Nat) (k:Dg) (v:AV),M[j]?=some (k,v)-> ∃l,V[j]?=some (k,l)/\kB s v l
 apart: ∀(i j:Nat) (e e':Dg×AV) (r:Nat),i≠j->M[i]?=some e->M[j]?=some e'->rowId e.2=some r->rowId e'.2≠some r
theorem kB.app{s:List aa}{v:AV}{l:List Dg}(h:kB s v l)(x:List aa):kB (s++x) v l:=h.imp id λ⟨r,a,b⟩=>⟨r,a,bz b x⟩
theorem kB.set{s:List aa}{v:AV}{l:List Dg}(h:kB s v l){i:Nat}{o:aa}(hi:rowId v≠some i):kB (s.set i o) v l:=h.imp id λ⟨r,a,b⟩=>⟨r,a,getSet b λe=>hi (by rw[a,<-e];rfl)⟩
theorem TS.app{n:Nat}{M:MD}{V:eu}{s:List aa}(h:TS n M V s)(x:List aa):TS n M V (s++x):=
 ⟨bz h.map x,h.keys,h.nd,λj k v c=>let⟨l,a,b⟩:=h.row j k v c;⟨l,a,b.app x⟩,h.apart⟩
theorem TS.upd{n:Nat}{M M':MD}{V:eu}{s I:List aa}(h:TS n M V s){key:Dg}{v:AV}{l news:List Dg}(hm:I[n]?=some (.map true (cM M')))
  (P:(key∉V.map (·.1)/\M'=M++[(key,v)]/\l=news)\/ ∃j v0 H,M[j]?=some (key,v0)/\V[j]?=some (key,H)/\M'=M.set j (key,v)/\l=H++news)
  (L:kB I v l) (w: ∀(j:Nat) (k:Dg) (g:AV) (l':List Dg),k≠key->M[j]?=some (k,g)->kB s g l'->kB I g l')
  (G: ∀r,rowId v=some r-> ∀(j:Nat) (k:Dg) (g:AV),k≠key->M[j]?=some (k,g)->rowId g≠some r):TS n M' (il V key news) I:=by
 have D:M.length=V.length:=by have:=congrArg List.length h.keys;simpa using this
 rcases P with⟨hk,rfl,rfl⟩|⟨j0,v0,H,hj0,hV0,rfl,rfl⟩
 .unfold il;rw[if_neg hk];have C: ∀(j:Nat) (k:Dg) (g:AV),M[j]?=some (k,g)->k≠key:=λj k g c e=>hk (by rw[<-h.keys,<-e];exact eR (f:=Prod.fst) (bR c));refine⟨hm,by simp[h.keys],?_,λj k g c=> ?_,λi j e o r y hi c m=> ?_⟩
  .rw[fF];exact List.nodup_append.2 ⟨h.nd,by simp,λa ha b hb e=>hk (by simp at hb;rw[<-hb,<-e];exact ha)⟩
  .rw[jb]at c;rw[jb];split at c
   .rename_i E;rw[if_pos a8];obtain⟨l',A,J⟩:=h.row j k g c;exact⟨l',A,w j k g l' (C j k g c) c J⟩
   .rename_i E;rw[if_neg a8];have u:j-M.length=0:=by
     rcases qM (j-M.length)with h0|h0
     .exact h0
     .rw[iO (by simp;omega)]at c;cases c
    rw[u]at c;rw[<-D,u];simp at c;obtain⟨rfl,rfl⟩:=c;exact⟨l,rfl,L⟩
  .have d: ∀(i:Nat) (e:Dg×AV),(M++[(key,v)])[i]?=some e->(M[i]?=some e/\e.1≠key)\/(i=M.length/\e=(key,v)):=λi e hi=>by
    rw[jb]at hi;split at hi
    .exact .inl ⟨hi,C i e.1 e.2 hi⟩
    .rename_i E;have u:i-M.length=0:=by
      rcases qM (i-M.length)with h0|h0
      .exact h0
      .rw[iO (by simp;omega)]at hi;cases hi
     rw[u]at hi;simp at hi;exact .inr ⟨by omega,hi.symm⟩
   rcases d i e hi with⟨hi,x⟩|⟨hi,rfl⟩
   .rcases d j o c with⟨c,p⟩|⟨c,rfl⟩
    .exact h.apart i j e o r y hi c m
    .intro t;exact G r t i e.1 e.2 x hi m
   .rcases d j o c with⟨c,p⟩|⟨c,rfl⟩
    .exact G r m j o.1 o.2 p c
    .omega
 .have K:key∈V.map (·.1):=eR (f:=Prod.fst) (bR hV0);have B:j0<M.length:=(aV.1 hj0).1;have F: ∀(j:Nat) (l':List Dg),V[j]?=some (key,l')->j=j0:=λj l' c=>by
   have N:(V.map (·.1))[j]?=some key:=by rw[dj,c];rfl
   have t:(V.map (·.1))[j0]?=some key:=by rw[dj,hV0];rfl
   exact(List.getElem?_inj (by rw[aM];exact(aV.1 c).1) h.nd).1 (N.trans t.symm)
  have q:(V.map λe=>if e.1=key then(e.1,e.2++news)else e).map (·.1)=V.map (·.1):=by
   rw[ll];apply vt;intro e _;show(if e.1=key then(e.1,e.2++news)else e).1=e.1;split<;>rfl
  have z:(M.set j0 (key,v)).map (·.1)=M.map (·.1):=by
   apply gW;intro j;rw[dj,dj];by_cases e:j=j0
   .subst e;rw[ej B,hj0];rfl
   .rw[bC (Ne.symm e)]
  unfold il;rw[if_pos K];have d: ∀(i:Nat) (e:Dg×AV),(M.set j0 (key,v))[i]?=some e->(M[i]?=some e/\i≠j0/\e.1≠key)\/(i=j0/\e=(key,v)):=λi e hi=>by
   by_cases t:i=j0
   .subst t;rw[ej B]at hi;exact .inr ⟨rfl,(aJ hi).symm⟩
   .rw[bC (Ne.symm t)]at hi;refine .inl ⟨hi,t,λO=>t ?_⟩;obtain⟨l',A,_⟩:=h.row i e.1 e.2 hi;rw[O]at A;exact F i l' A
  refine⟨hm,by rw[z,q,h.keys],by rw[q];exact h.nd,λj k g c=> ?_,λi j e o r y hi c m=> ?_⟩
  .rw[dj];rcases d j _ c with⟨c,hne,hk⟩|⟨rfl,e⟩
   .obtain⟨l',A,J⟩:=h.row j k g c;exact⟨l',by rw[A,eY,if_neg hk],w j k g l' hk c J⟩
   .cases e;exact⟨H++news,by rw[hV0,eY,if_pos rfl],L⟩
  .rcases d i e hi with⟨hi,_,x⟩|⟨hi,rfl⟩
   .rcases d j o c with⟨c,_,p⟩|⟨c,rfl⟩
    .exact h.apart i j e o r y hi c m
    .intro t;exact G r t i e.1 e.2 x hi m
   .rcases d j o c with⟨c,_,p⟩|⟨c,rfl⟩
    .exact G r m j o.1 o.2 p c
    .omega
theorem IZ{d:Dg}: ∀{m:MD} {i j:Nat} {v:AV},eV d m i=some (j,v)->i<=j/\m[j-i]?=some (d,v)
 |[],i,j,v,h=>by cases h
 |e::m,i,j,v,h=>by
  rw[eV]at h;by_cases a:d=e.1
  .rw[if_pos a]at h;simp only[xM,Prod.mk.injEq]at h;obtain⟨rfl,rfl⟩:=h;exact⟨bg _,by rw[jc,a];rfl⟩
  .rw[if_neg a]at h;obtain⟨c,b⟩:=IZ h;refine⟨by omega,?_⟩;have:j-i=(j-(i+1))+1:=by omega
   rw[this];exact b
theorem TS.find{n:Nat}{M:MD}{V:eu}{s:List aa}(h:TS n M V s)(key:Dg):(eV key M 0=none/\key∉V.map (·.1))\/ ∃j v l,eV key M 0=some (j,v)/\M[j]?=some (key,v)/\V[j]?=some (key,l)/\kB s v l:=by
 cases b:eV key M 0 with
 |none=>exact .inl ⟨rfl,by rw[<-h.keys];exact yt.1 b⟩
 |some r=>
  obtain⟨j,v⟩:=r;have a:=(IZ b).2;rw[pI]at a;obtain⟨l,c,d⟩:=h.row j key v a;exact .inr ⟨j,v,l,rfl,a,c,d⟩
theorem kB.setN{s:List aa}{v:AV}{l:List Dg}(h:kB s v l){n:Nat}{o:aa}{e:List (List Value×AV)}(c:s[n]?=some (.map true e)):kB (s.set n o) v l:=h.imp id λ⟨r,b,a⟩=>⟨r,b,getSet a λe=>by subst e;rw[c]at a;cases a⟩
theorem kB.lt{s:List aa}{v:AV}{l:List Dg}(h:kB s v l){r:Nat}(a:rowId v=some r):s[r]?=some (.row 30 32 l.length)/\v= .tsl r 32 (l.map au):=by
 rcases h with⟨rfl,_⟩|⟨r',rfl,h2⟩
 .cases a
 .cases a;exact⟨h2,rfl⟩
theorem TS.none0{n:Nat}{M:MD}{V:eu}{s:List aa}(h:TS n M V s){key:Dg}(hk:key∉V.map (·.1)):TS n (M++[(key,.nil 32)]) (il V key []) (s.set n (.map true (cM (M++[(key,.nil 32)])))):=
 h.upd (eg h.map) (.inl ⟨hk,rfl,rfl⟩) (.inl ⟨rfl,rfl⟩) (λj k b l' _ _ a=>a.setN h.map) (λr a=>by cases a)
theorem TS.new1{n:Nat}{M M':MD}{V:eu}{s:List aa}(h:TS n M V s){key x:Dg}{o:aa}(p: ∃e,o= .map true e)(i:(key∉V.map (·.1)/\M'=M++[(key,.tsl s.length 32 [au x])])\/ ∃j v0,M[j]?=some (key,v0)/\V[j]?=some (key,[])/\M'=M.set j (key,.tsl s.length 32 [au x])):
  TS n M' (il V key [x]) ((s.set n o++[aa.row 30 32 1]).set n (.map true (cM M'))):=by
 obtain⟨e,rfl⟩:=p;have q:=(aV.1 h.map).1;have b:(s.set n (.map true e)++[aa.row 30 32 1])[n]?=some (.map true e):=bz (eg h.map) _
 refine h.upd (l:=[x]) (v:= .tsl s.length 32 [au x]) (eg b) ?_ (.inr ⟨s.length,rfl,getSet (by rw[iY (by simp)];simp) a8⟩) (λj k f l' _ _ d=>((d.setN h.map).app _).setN b) (λr d j k f _ m=> ?_)
 .rcases i with⟨c,a⟩|⟨j,v0,c,a,h3⟩
  .exact .inl ⟨c,a,rfl⟩
  .exact .inr ⟨j,v0,[],c,a,h3,rfl⟩
 .cases d;intro g;obtain⟨l',c,a⟩:=h.row j k f m;have:=(aV.1 (a.lt g).1).1;omega
theorem TS.hit0{n:Nat}{M:MD}{V:eu}{s:List aa}(h:TS n M V s){key:Dg}{j:Nat}(a:M[j]?=some (key,.nil 32))(c:V[j]?=some (key,[])):TS n M (il V key []) s:=
 h.upd (v:= .nil 32) h.map (.inr ⟨j,_,[],a,c,by
  apply gW;intro i;by_cases e:i=j
  .subst e;rw[ej (aV.1 a).1,a]
  .rw[bC (Ne.symm e)],rfl⟩) (.inl ⟨rfl,rfl⟩) (λj k d l' _ _ b=>b) (λr b=>by cases b)
theorem TS.grow{n:Nat}{M:MD}{V:eu}{s:List aa}(h:TS n M V s){key:Dg}{j r:Nat}{l news:List Dg}(f:M[j]?=some (key,.tsl r 32 (l.map au)))(p:V[j]?=some (key,l))(g:s[r]?=some (.row 30 32 l.length)):
  TS n (M.set j (key,.tsl r 32 ((l++news).map au))) (il V key news) ((s.set r (.row 30 32 (l.length+news.length))).set n (.map true (cM (M.set j (key,.tsl r 32 ((l++news).map au)))))):=by
 have d:r≠n:=λe=>by subst e;rw[h.map]at g;cases g
 have c:(s.set r (.row 30 32 (l.length+news.length)))[n]?=some (.map true (cM M)):=getSet h.map d;have b: ∀(i:Nat) (k:Dg) (a:AV),k≠key->M[i]?=some (k,a)->rowId a≠some r:=λi k a hk hi e=>
  h.apart i j _ _ r (λo=>by subst o;rw[hi]at f;exact hk (congrArg Prod.fst (aJ f))) hi f e rfl
 exact h.upd (eg c) (.inr ⟨j,_,l,f,p,rfl,rfl⟩) (.inr ⟨r,rfl,getSet (by rw[eg g,aQ]) (Ne.symm d)⟩) (λi k a l' hk hi q=>(q.set (b i k a hk hi)).setN c) (λr' m i k a hk hi=>by cases m;exact b i k a hk hi)
theorem AH{M:MD}{j:Nat}{d:Dg}{v:AV}(h:M[j]?=some (d,v)):(cM M)[j]?=some (dn d,v):=by unfold cM;rw[dj,h];rfl
set_option maxHeartbeats 2000000 in
theorem Zp(n g:Nat)(id:Dg)(needs:List Dg)(G:Value)(M:MD)(V:eu)(c:Nat)(hc:c<=1000000000000)(L: ∀e∈V,e.2.length<=c)(s:List aa)(y:TS n M V s)(hg:s[g]?=some .hole)(Q:Exit->Fr->List aa->Prop)(tail:CC)
   (J: ∀(fr:Fr) (H:List aa) (M':MD),Bb.look fr 10=some (.d (.sc G))->Bb.look fr 3=some (.mp n)->Bb.look fr 5=some (.d (.sl 32 (needs.map au)))->Bb.look fr 4=some (.ptr s.length 0)->H[s.length]?=some (.cells ((au id).map .d))->H[g]?=some .hole->TS n M' (il V id []) H->cy Tryz.prog none tail Q fr H):
   cy Tryz.prog none (.seq (.ops false [] CK) (.seq
 (
  fo [om 16 3,o0 17 (.ld (some 32) (.t 4)),o0 19 (.bsf 32 0 [] []),o0 20 (.men true kg (.nil 32) (.t 16) (.t 17)),o0 18 (.ext (.t 20) 0),o0 21 (.app false 30 32 32 (.t 18) (.t 19)),o0 22 (.ext (.t 20) 1),oN (.mst (.t 16) (.t 22) (.t 21))]) tail)) Q
    ((13,.tup [.d (.agg (au id)),.d (.sl 32 (needs.map au))])::(10,.d (.sc G))::[(3,.mp n)]) s:=by
  have o:=y.app [aa.cells ((au id).map .d)];have h:=o.map;have u:=bz hg [aa.cells ((au id).map .d)];have f:(s++[aa.cells ((au id).map .d)])[s.length]?=some (.cells ((au id).map .d)):=by simp
  have k:ey kg (dn id) (cM M) 0=some (eV id M 0):=nZ id M 0;have O:=(aV.1 y.map).1;have K:n≠g:=λe=>by subst e;rw[y.map]at hg;cases hg
  unfold CK;obtain⟨x,w⟩: ∃x,x=s++[aa.cells ((au id).map .d)]:=⟨_,rfl⟩
  rw[<-w]at o h u f;rcases o.find id with⟨I,p⟩|⟨j,v,l,I,p,h3,h4⟩
  .rw[I]at k;have a:=o.none0 p;have C:(x.set n (.map true (cM (M++[(id,.nil 32)]))))[n]?=some (.map true (cM (M++[(id,.nil 32)]))):=eg h;have m:(cM (M++[(id,.nil 32)]))[M.length]?=some (dn id,.nil 32):=AH (by simp);have F:(cM (M++[(id,.nil 32)])).set M.length (dn id,.nil 32)=cM (M++[(id,.nil 32)]):=by rw[vM];simp
   repeat' first|simp only[<-w,List.set_set]|refine ab (λ_=> ?_) λ_=> ?_|refine aG (ga @fw (ga @b9 (ga @f (ga @h (ga @k (ga @pQ (ga @AI (ga @C (ga @m (ga @F @wj)))))))))) trivial ?_|exact aF (ga @fw (ga @b9 (ga @f (ga @h (ga @k (ga @pQ (ga @AI (ga @C (ga @m (ga @F @wj)))))))))) trivial|fail
   refine J _ _ _ ?_ ?_ ?_ ?_ (getSet f a8) (getSet u K) a<;>rfl
  .rw[I]at k;have q:(cM M).set j (dn id,v)=cM M:=by
    rw[vM];congr 1;apply gW;intro i;by_cases e:i=j
    .subst e;rw[ej (aV.1 p).1,p]
    .rw[bC (Ne.symm e)]
   have b:x.set n (.map true (cM M))=x:=zA h;have m:=AH p;rcases h4 with⟨rfl,rfl⟩|⟨r,rfl,z⟩
   .have a:=o.hit0 p h3
    repeat' first|simp only[<-w]|refine ab (λ_=> ?_) λ_=> ?_|refine aG (ga @fw (ga @b9 (ga @f (ga @h (ga @k (ga @q (ga @b (ga @m @wj)))))))) trivial ?_|exact aF (ga @fw (ga @b9 (ga @f (ga @h (ga @k (ga @q (ga @b (ga @m @wj)))))))) trivial|fail
    refine J _ _ _ ?_ ?_ ?_ ?_ f u a<;>rfl
   .have a:=o.grow (news:=[]) p h3 z;rw[bq,bc,aB]at a;have N:l.length<=c:=L (id,l) (bR h3);have D:bw l.length 32=true:=room_le a8 a8;have P:r≠n:=λe=>by subst e;rw[h]at z;cases z
    have A:x.set r (.row 30 32 l.length)=x:=zA z;rw[A]at a;have B:(M.set j (id,.tsl r 32 (l.map au)))=M:=by
     apply gW;intro i;by_cases e:i=j
     .subst e;rw[ej (aV.1 p).1,p]
     .rw[bC (Ne.symm e)]
    rw[B,b]at a;have E:gU 30 32 l.length x[r]?=true:=by rw[z];simp[gU]
    repeat' first|simp only[<-w,bq]|refine ab (λ_=> ?_) λ_=> ?_|refine aG (ga @fw (ga @b9 (ga @f (ga @h (ga @k (ga @q (ga @b (ga @m (ga @z (ga @E (ga @D (ga @A (ga @aB @wj))))))))))))) trivial ?_|exact aF (ga @fw (ga @b9 (ga @f (ga @h (ga @k (ga @q (ga @b (ga @m (ga @z (ga @E (ga @D (ga @A (ga @aB @wj))))))))))))) trivial|fail
    refine J _ _ _ ?_ ?_ ?_ ?_ f u a<;>rfl
theorem An{V:eu}{key:Dg}{news:List Dg}{c:Nat}(h: ∀e∈V,e.2.length<=c): ∀e∈il V key news,e.2.length<=c+news.length:=λe a=>by
 unfold il at a;split at a
 .obtain⟨b,h0,rfl⟩:=bM.1 a;have:=h b h0;split
  .show(b.2++news).length<=_;rw[aQ];omega
  .omega
 .rcases fk.1 a with a|a
  .have:=h e a;omega
  .simp at a;subst a;simp
def CL:CC:=
 (.seq
 (fo [om 23 5,o0 24 (.len 0 (.t 23)),o0 25 (.mov (xi 0))])
 (.block 2
 (.loop
 (.trim [25,4,3,23,24,10]
 (.seq
 (fo [o0 26 (.bin .lss (.t 25) (.t 24))])
 (.seq
 (.cond (.t 26)
 .skip
 (.exit 2))
 (.seq
 (.block 3
 (.seq
 (fo [o0 27 (.iad 32 (.t 23) (.t 25)),o0 28 (.ld (some 32) (.t 27)),o0 7 (.box (.c (.agg rT))),oN (.st 32 (.t 7) (.t 28))])
 (fo [om 29 3,o0 30 (.ld (some 32) (.t 7)),o0 32 (.ld (some 32) (.t 4)),o0 33 (.bsf 32 1 rT [(0,32,(.t 32))]),o0 34 (.men true kg (.nil 32) (.t 29) (.t 30)),o0 31 (.ext (.t 34) 0),o0 35 (.app false 30 32 32 (.t 31) (.t 33)),o0 36 (.ext (.t 34) 1),oN (.mst (.t 29) (.t 36) (.t 35))])))
 (fo [o0 37 (.bin .add (.t 25) (xi 1)),om 25 37]))))))))
set_option maxHeartbeats 4000000 in
theorem Zr(n g R:Nat)(id:Dg)(needs:List Dg)(hn:needs.length<=100000)(P:Value)(S:eu)(c:Nat)(hc:c<=1000000000000)(a1: ∀e∈S,e.2.length<=c)(fr:Fr)(Z:List aa)(M0:MD)(T:Bb.look fr 10=some (.d (.sc P)))(f3:Bb.look fr 3=some (.mp n))(f5:Bb.look fr 5=some (.d (.sl 32 (needs.map au))))(f4:Bb.look fr 4=some (.ptr R 0))
  (a2:Z[R]?=some (.cells ((au id).map .d))) (a3:Z[g]?=some .hole) (a0:TS n M0 S Z):
  cy Tryz.prog none CL (λe U s3=>e= .normal/\Bb.look U 10=some (.d (.sc P))/\Bb.look U 3=some (.mp n)/\s3[g]?=some .hole/\ ∃M',TS n M' (nc S id needs) s3) fr Z:=by
 unfold CL;refine aC (ga @T (ga @f3 (ga @f5 (ga @f4 @wj)))) trivial ?_
 refine aZ.overI needs (λk (b:MD×eu×List aa)=>[(25,iN k)]) (λ_ b=>b.2.2) (λr b=>nc b.2.1 id r) (nc S id needs) (λk b=>TS n b.1 b.2.1 b.2.2/\b.2.2[R]?=some (.cells ((au id).map .d))/\b.2.2[g]?=some .hole/\ ∀e∈b.2.1,e.2.length<=c+k) (M0,S,Z) a8 (fr0:=[(25,iN 0),(4,.ptr R 0),(3,.mp n),(23,.d (.sl 32 (needs.map au))),(24,.d (dI needs.length)),(10,.d (.sc P))]) ?_ aA rfl rfl ⟨a0,a2,a3,λe he=>by have:=a1 e he;omega⟩ (λk b x A hk L Q D hJ=> ?_) (λb L D hJ=> ?_)
 .simp only[eQ,List.filterMap_cons,List.filterMap_nil,Bb.look,T,f3,f4,eY,if_true,if_false,reduceIte,Nat.reduceEqDiff];rfl
 .obtain⟨M,V,s⟩:=b;obtain⟨K,hb,hg,W⟩:=hJ;dsimp only at D K hb hg W;rw[nc]at D;have z:=K.app [aa.cells ((au x).map .d)];have a:=z.map;have B:=bz hg [aa.cells ((au x).map .d)];have f:=bz hb [aa.cells ((au x).map .d)];have w:(s++[aa.cells ((au x).map .d)])[s.length]?=some (.cells ((au x).map .d)):=by simp
  have p:ey kg (dn x) (cM M) 0=some (eV x M 0):=nZ x M 0;have a9:=(aV.1 K.map).1;have H:n≠g:=λe=>by subst e;rw[K.map]at hg;cases hg
  have E:n≠R:=λe=>by subst e;rw[K.map]at hb;cases hb
  have O: ∀e∈il V x [id],e.2.length<=c+(k+1):=λe he=>by have:=An (news:=[id]) W e he;simpa[lq]using this
  have I:bw 1 32=true:=by decide
  have G:[au id].flatten=au id:=by simp
  obtain⟨y,J⟩: ∃y,y=s++[aa.cells ((au x).map .d)]:=⟨_,rfl⟩
  rw[<-J]at z a B f w;rcases z.find x with⟨h1,N⟩|⟨j,v,l,h1,N,h3,h4⟩
  .rw[h1]at p;have h:=z.new1 (x:=id) (M':=M++[(x,.tsl y.length 32 [au id])]) (o:= .map true (cM (M++[(x,.nil 32)]))) ⟨_,rfl⟩ (.inl ⟨N,rfl⟩);have q:(y.set n (.map true (cM (M++[(x,.nil 32)])))++[aa.row 30 32 1])[n]?=some (.map true (cM (M++[(x,.nil 32)]))):=bz (eg a) _;have u:(cM (M++[(x,.nil 32)]))[M.length]?=some (dn x,.nil 32):=AH (by simp)
   have t:(cM (M++[(x,.nil 32)])).set M.length (dn x,.tsl y.length 32 [au id])=cM (M++[(x,.tsl y.length 32 [au id])]):=by rw[vM];simp
   repeat' first|simp only[<-J]|refine ab (λ_=> ?_) λ_=> ?_|refine aG (ga @L (ga @Q (ga @A (ga @fw (ga @b9 (ga @w (ga @f (ga @a (ga @p (ga @pQ (ga @AI (ga @q (ga @u (ga @t (ga @I (ga @G @wj)))))))))))))))) trivial ?_|exact aF (ga @L (ga @Q (ga @A (ga @fw (ga @b9 (ga @w (ga @f (ga @a (ga @p (ga @pQ (ga @AI (ga @q (ga @u (ga @t (ga @I (ga @G @wj)))))))))))))))) trivial|fail
   exact⟨(_,il V x [id],_),rfl,D,h,getSet (bz (getSet f E) _) E,getSet (bz (getSet B H) _) H,O⟩
  .rw[h1]at p;have F:(cM M).set j (dn x,v)=cM M:=by
    rw[vM];congr 1;apply gW;intro i;by_cases e:i=j
    .subst e;rw[ej (aV.1 N).1,N]
    .rw[bC (Ne.symm e)]
   have m:y.set n (.map true (cM M))=y:=zA a;have u:=AH N;rcases h4 with⟨rfl,rfl⟩|⟨r,rfl,C⟩
   .have h:=z.new1 (x:=id) (M':=M.set j (x,.tsl y.length 32 [au id])) (o:= .map true (cM M)) ⟨_,rfl⟩ (.inr ⟨j,_,N,h3,rfl⟩);rw[m]at h;have q:(y++[aa.row 30 32 1])[n]?=some (.map true (cM M)):=bz a _;have t:(cM M).set j (dn x,.tsl y.length 32 [au id])=cM (M.set j (x,.tsl y.length 32 [au id])):=vM _ _ _ _
    repeat' first|simp only[<-J]|refine ab (λ_=> ?_) λ_=> ?_|refine aG (ga @L (ga @Q (ga @A (ga @fw (ga @b9 (ga @w (ga @f (ga @a (ga @p (ga @F (ga @m (ga @q (ga @u (ga @t (ga @I (ga @G @wj)))))))))))))))) trivial ?_|exact aF (ga @L (ga @Q (ga @A (ga @fw (ga @b9 (ga @w (ga @f (ga @a (ga @p (ga @F (ga @m (ga @q (ga @u (ga @t (ga @I (ga @G @wj)))))))))))))))) trivial|fail
    exact⟨(_,il V x [id],_),rfl,D,h,getSet (bz f _) E,getSet (bz B _) H,O⟩
   .have h:=z.grow (news:=[id]) N h3 C;have a7:l.length<=c+k:=W (x,l) (bR h3);have X:bw (l.length+1) 32=true:=room_le a8 a8;have a6:r≠n:=λe=>by subst e;rw[a]at C;cases C
    have a4:r≠R:=λe=>by subst e;rw[f]at C;cases C
    have a5:r≠g:=λe=>by subst e;rw[B]at C;cases C
    have Y:gU 30 32 l.length y[r]?=true:=by rw[C];simp[gU]
    have q:(y.set r (.row 30 32 (l.length+1)))[n]?=some (.map true (cM M)):=getSet a a6;have t:(cM M).set j (dn x,.tsl r 32 (l.map au++[au id]))=cM (M.set j (x,.tsl r 32 (l.map au++[au id]))):=vM _ _ _ _;rw[fF,bX,fi,oJ]at h
    repeat' first|simp only[<-J]|refine ab (λ_=> ?_) λ_=> ?_|refine aG (ga @L (ga @Q (ga @A (ga @fw (ga @b9 (ga @w (ga @f (ga @a (ga @p (ga @F (ga @m (ga @q (ga @u (ga @t (ga @C (ga @Y (ga @X @wj))))))))))))))))) trivial ?_|exact aF (ga @L (ga @Q (ga @A (ga @fw (ga @b9 (ga @w (ga @f (ga @a (ga @p (ga @F (ga @m (ga @q (ga @u (ga @t (ga @C (ga @Y (ga @X @wj))))))))))))))))) trivial|fail
    exact⟨(_,il V x [id],_),rfl,D,h,getSet (getSet f a4) E,getSet (getSet B a5) H,O⟩
 .obtain⟨M,V,s⟩:=b;obtain⟨K,hb,hg,W⟩:=hJ;dsimp only at D K hb hg W;rw[nc]at D;refine aC (ga @L @wj) trivial ?_
  all_goals first|exact⟨hg,M,by rw[D];exact K⟩|trace_state
end Go.Proofs.Q
