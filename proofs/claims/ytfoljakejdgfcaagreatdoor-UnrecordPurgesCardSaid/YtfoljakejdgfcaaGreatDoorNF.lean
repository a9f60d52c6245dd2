/- Part of a proof. -/
import Derived.Test.YtfoljakejdgfcaaGreatDoorPBR
set_option linter.unusedVariables false
set_option linter.unusedSimpArgs false
namespace Go.Proofs.Q
open Go Go.Bb Go.RowKit Go.Proofs.Lg
open Go.Ab (D RD)
abbrev dy:=List (Dg×List Dg)
def fC(V:dy)(key:Dg)(news:List Dg):dy:=if key∈V.map (·.1)then V.map fun e=>if e.1=key then(e.1,e.2++news)else e else V++[(key,news)]
def kN(V:dy)(id:Dg):List Dg→dy
 |[]=>V
 |d::l=>kN (fC V d [id]) id l
def j5(s:List aa)(v:AV)(l:List Dg):Prop:=(v= .nil 32∧l=[])∨ ∃r,v= .tsl r 32 (l.map aq)∧s[r]?=some (.row 25 32 l.length)
def rowId:AV→Option Nat
 | .tsl r _ _=>some r
 |_=>none
structure TS(n:Nat)(M:MD)(V:dy)(s:List aa):Prop where
 map:s[n]?=some (.map true (cM M))
 keys:M.map (·.1)=V.map (·.1)
 nd:(V.map (·.1)).Nodup
 row: ∀(j:Nat) (k:Dg) (v:AV),M[j]?=some (k,v)→ ∃l,V[j]?=some (k,l)∧j5 s v l
 apart: ∀(i j:Nat) (e e':Dg×AV) (r:Nat),i≠j→M[i]?=some e→M[j]?=some e'→rowId e.2=some r→rowId e'.2≠some r
theorem j5.app{s:List aa}{v:AV}{l:List Dg}(h:j5 s v l)(x:List aa):j5 (s++x) v l:=h.imp id fun⟨r,a,b⟩=>⟨r,a,bt b x⟩
theorem j5.set{s:List aa}{v:AV}{l:List Dg}(h:j5 s v l){i:Nat}{o:aa}(hi:rowId v≠some i):j5 (s.set i o) v l:=h.imp id fun⟨r,a,b⟩=>⟨r,a,getSet b fun e=>hi (by rw[a,←e];rfl)⟩
theorem TS.app{n:Nat}{M:MD}{V:dy}{s:List aa}(h:TS n M V s)(x:List aa):TS n M V (s++x):=
 ⟨bt h.map x,h.keys,h.nd,fun j k v c=>let⟨l,a,b⟩:=h.row j k v c;⟨l,a,b.app x⟩,h.apart⟩
theorem TS.upd{n:Nat}{M M':MD}{V:dy}{s J:List aa}(h:TS n M V s){key:Dg}{v:AV}{l news:List Dg}(hm:J[n]?=some (.map true (cM M')))
  (Q:(key∉V.map (·.1)∧M'=M++[(key,v)]∧l=news)∨ ∃j v0 I,M[j]?=some (key,v0)∧V[j]?=some (key,I)∧M'=M.set j (key,v)∧l=I++news)
  (N:j5 J v l) (w: ∀(j:Nat) (k:Dg) (g:AV) (l':List Dg),k≠key→M[j]?=some (k,g)→j5 s g l'→j5 J g l')
  (H: ∀r,rowId v=some r→ ∀(j:Nat) (k:Dg) (g:AV),k≠key→M[j]?=some (k,g)→rowId g≠some r):TS n M' (fC V key news) J:=by
 have E:M.length=V.length:=by have:=congrArg List.length h.keys;simpa using this
 rcases Q with⟨B,rfl,rfl⟩|⟨j0,v0,I,hj0,hV0,rfl,rfl⟩
 ·unfold fC;rw[if_neg B];have D: ∀(j:Nat) (k:Dg) (g:AV),M[j]?=some (k,g)→k≠key:=fun j k g c e=>B (by rw[←h.keys,←e];exact j3 (f:=Prod.fst) (bT c));refine⟨hm,by simp[h.keys],?_,fun j k g c=> ?_,fun i j e o r y hi c m=> ?_⟩
  ·rw[eX];exact List.nodup_append.2 ⟨h.nd,by simp,fun a ha b hb e=>B (by simp at hb;rw[←hb,←e];exact ha)⟩
  ·rw[gY]at c;rw[gY];split at c
   ·rename_i F;rw[if_pos a8];obtain⟨l',A,K⟩:=h.row j k g c;exact⟨l',A,w j k g l' (D j k g c) c K⟩
   ·rename_i F;rw[if_neg a8];have u:j-M.length=0:=by
     rcases nW (j-M.length)with h0|h0
     ·exact h0
     ·rw[fZ (by simp;omega)]at c;cases c
    rw[u]at c;rw[←E,u];simp at c;obtain⟨rfl,rfl⟩:=c;exact⟨l,rfl,N⟩
  ·have d: ∀(i:Nat) (e:Dg×AV),(M++[(key,v)])[i]?=some e→(M[i]?=some e∧e.1≠key)∨(i=M.length∧e=(key,v)):=fun i e hi=>by
    rw[gY]at hi;split at hi
    ·exact .inl ⟨hi,D i e.1 e.2 hi⟩
    ·rename_i F;have u:i-M.length=0:=by
      rcases nW (i-M.length)with h0|h0
      ·exact h0
      ·rw[fZ (by simp;omega)]at hi;cases hi
     rw[u]at hi;simp at hi;exact .inr ⟨by omega,hi.symm⟩
   rcases d i e hi with⟨hi,x⟩|⟨hi,rfl⟩
   ·rcases d j o c with⟨c,p⟩|⟨c,rfl⟩
    ·exact h.apart i j e o r y hi c m
    ·intro t;exact H r t i e.1 e.2 x hi m
   ·rcases d j o c with⟨c,p⟩|⟨c,rfl⟩
    ·exact H r m j o.1 o.2 p c
    ·omega
 ·have L:key∈V.map (·.1):=j3 (f:=Prod.fst) (bT hV0);have C:j0<M.length:=(aR.1 hj0).1;have G: ∀(j:Nat) (l':List Dg),V[j]?=some (key,l')→j=j0:=fun j l' c=>by
   have O:(V.map (·.1))[j]?=some key:=by rw[cC,c];rfl
   have t:(V.map (·.1))[j0]?=some key:=by rw[cC,hV0];rfl
   exact(List.getElem?_inj (by rw[aL];exact(aR.1 c).1) h.nd).1 (O.trans t.symm)
  have q:(V.map fun e=>if e.1=key then(e.1,e.2++news)else e).map (·.1)=V.map (·.1):=by
   rw[lk];apply List.map_congr_left;intro e _;show(if e.1=key then(e.1,e.2++news)else e).1=e.1;split<;>rfl
  have z:(M.set j0 (key,v)).map (·.1)=M.map (·.1):=by
   apply fy;intro j;rw[cC,cC];by_cases e:j=j0
   ·subst e;rw[dJ C,hj0];rfl
   ·rw[bs (Ne.symm e)]
  unfold fC;rw[if_pos L];have d: ∀(i:Nat) (e:Dg×AV),(M.set j0 (key,v))[i]?=some e→(M[i]?=some e∧i≠j0∧e.1≠key)∨(i=j0∧e=(key,v)):=fun i e hi=>by
   by_cases t:i=j0
   ·subst t;rw[dJ C]at hi;exact .inr ⟨rfl,(az hi).symm⟩
   ·rw[bs (Ne.symm t)]at hi;refine .inl ⟨hi,t,fun P=>t ?_⟩;obtain⟨l',A,_⟩:=h.row i e.1 e.2 hi;rw[P]at A;exact G i l' A
  refine⟨hm,by rw[z,q,h.keys],by rw[q];exact h.nd,fun j k g c=> ?_,fun i j e o r y hi c m=> ?_⟩
  ·rw[cC];rcases d j _ c with⟨c,hne,B⟩|⟨rfl,e⟩
   ·obtain⟨l',A,K⟩:=h.row j k g c;exact⟨l',by rw[A,eY,if_neg B],w j k g l' B c K⟩
   ·cases e;exact⟨I++news,by rw[hV0,eY,if_pos rfl],N⟩
  ·rcases d i e hi with⟨hi,_,x⟩|⟨hi,rfl⟩
   ·rcases d j o c with⟨c,_,p⟩|⟨c,rfl⟩
    ·exact h.apart i j e o r y hi c m
    ·intro t;exact H r t i e.1 e.2 x hi m
   ·rcases d j o c with⟨c,_,p⟩|⟨c,rfl⟩
    ·exact H r m j o.1 o.2 p c
    ·omega
theorem Hs{d:Dg}: ∀{m:MD} {i j:Nat} {v:AV},eE d m i=some (j,v)→i≤j∧m[j-i]?=some (d,v)
 |[],i,j,v,h=>by cases h
 |e::m,i,j,v,h=>by
  rw[eE]at h;by_cases a:d=e.1
  ·rw[if_pos a]at h;simp only[Option.some.injEq,Prod.mk.injEq]at h;obtain⟨rfl,rfl⟩:=h;exact⟨bh _,by rw[ia,a];rfl⟩
  ·rw[if_neg a]at h;obtain⟨c,b⟩:=Hs h;refine⟨by omega,?_⟩;have:j-i=(j-(i+1))+1:=by omega
   rw[this];exact b
theorem TS.find{n:Nat}{M:MD}{V:dy}{s:List aa}(h:TS n M V s)(key:Dg):(eE key M 0=none∧key∉V.map (·.1))∨ ∃j v l,eE key M 0=some (j,v)∧M[j]?=some (key,v)∧V[j]?=some (key,l)∧j5 s v l:=by
 cases b:eE key M 0 with
 |none=>exact .inl ⟨rfl,by rw[←h.keys];exact vk.1 b⟩
 |some r=>
  obtain⟨j,v⟩:=r;have a:=(Hs b).2;rw[nZ]at a;obtain⟨l,c,d⟩:=h.row j key v a;exact .inr ⟨j,v,l,rfl,a,c,d⟩
theorem j5.setN{s:List aa}{v:AV}{l:List Dg}(h:j5 s v l){n:Nat}{o:aa}{e:List (List Value×AV)}(c:s[n]?=some (.map true e)):j5 (s.set n o) v l:=h.imp id fun⟨r,b,a⟩=>⟨r,b,getSet a fun e=>by subst e;rw[c]at a;cases a⟩
theorem j5.lt{s:List aa}{v:AV}{l:List Dg}(h:j5 s v l){r:Nat}(a:rowId v=some r):s[r]?=some (.row 25 32 l.length)∧v= .tsl r 32 (l.map aq):=by
 rcases h with⟨rfl,_⟩|⟨r',rfl,h2⟩
 ·cases a
 ·cases a;exact⟨h2,rfl⟩
theorem TS.none0{n:Nat}{M:MD}{V:dy}{s:List aa}(h:TS n M V s){key:Dg}(b:key∉V.map (·.1)):TS n (M++[(key,.nil 32)]) (fC V key []) (s.set n (.map true (cM (M++[(key,.nil 32)])))):=
 h.upd (ed h.map) (.inl ⟨b,rfl,rfl⟩) (.inl ⟨rfl,rfl⟩) (fun j k c l' _ _ a=>a.setN h.map) (fun r a=>by cases a)
theorem TS.new1{n:Nat}{M M':MD}{V:dy}{s:List aa}(h:TS n M V s){key x:Dg}{o:aa}(p: ∃e,o= .map true e)(i:(key∉V.map (·.1)∧M'=M++[(key,.tsl s.length 32 [aq x])])∨ ∃j v0,M[j]?=some (key,v0)∧V[j]?=some (key,[])∧M'=M.set j (key,.tsl s.length 32 [aq x])):
  TS n M' (fC V key [x]) ((s.set n o++[aa.row 25 32 1]).set n (.map true (cM M'))):=by
 obtain⟨e,rfl⟩:=p;have q:=(aR.1 h.map).1;have b:(s.set n (.map true e)++[aa.row 25 32 1])[n]?=some (.map true e):=bt (ed h.map) _
 refine h.upd (l:=[x]) (v:= .tsl s.length 32 [aq x]) (ed b) ?_ (.inr ⟨s.length,rfl,getSet (by rw[gZ (by simp)];simp) a8⟩) (fun j k f l' _ _ d=>((d.setN h.map).app _).setN b) (fun r d j k f _ m=> ?_)
 ·rcases i with⟨c,a⟩|⟨j,v0,c,a,h3⟩
  ·exact .inl ⟨c,a,rfl⟩
  ·exact .inr ⟨j,v0,[],c,a,h3,rfl⟩
 ·cases d;intro g;obtain⟨l',c,a⟩:=h.row j k f m;have:=(aR.1 (a.lt g).1).1;omega
theorem TS.hit0{n:Nat}{M:MD}{V:dy}{s:List aa}(h:TS n M V s){key:Dg}{j:Nat}(a:M[j]?=some (key,.nil 32))(c:V[j]?=some (key,[])):TS n M (fC V key []) s:=
 h.upd (v:= .nil 32) h.map (.inr ⟨j,_,[],a,c,by
  apply fy;intro i;by_cases e:i=j
  ·subst e;rw[dJ (aR.1 a).1,a]
  ·rw[bs (Ne.symm e)],rfl⟩) (.inl ⟨rfl,rfl⟩) (fun j k d l' _ _ b=>b) (fun r b=>by cases b)
theorem TS.grow{n:Nat}{M:MD}{V:dy}{s:List aa}(h:TS n M V s){key:Dg}{j r:Nat}{l news:List Dg}(g:M[j]?=some (key,.tsl r 32 (l.map aq)))(q:V[j]?=some (key,l))(m:s[r]?=some (.row 25 32 l.length)):
  TS n (M.set j (key,.tsl r 32 ((l++news).map aq))) (fC V key news) ((s.set r (.row 25 32 (l.length+news.length))).set n (.map true (cM (M.set j (key,.tsl r 32 ((l++news).map aq)))))):=by
 have f:r≠n:=fun e=>by subst e;rw[h.map]at m;cases m
 have d:(s.set r (.row 25 32 (l.length+news.length)))[n]?=some (.map true (cM M)):=getSet h.map f;have b: ∀(i:Nat) (k:Dg) (a:AV),k≠key→M[i]?=some (k,a)→rowId a≠some r:=fun i k a c hi e=>
  h.apart i j _ _ r (fun p=>by subst p;rw[hi]at g;exact c (congrArg Prod.fst (az g))) hi g e rfl
 exact h.upd (ed d) (.inr ⟨j,_,l,g,q,rfl,rfl⟩) (.inr ⟨r,rfl,getSet (by rw[ed m,aN]) (Ne.symm f)⟩) (fun i k a l' c hi t=>(t.set (b i k a c hi)).setN d) (fun r' o i k a c hi=>by cases o;exact b i k a c hi)
theorem wv{s:List aa}{n:Nat}{o:aa}(h:s[n]?=some o):s.set n o=s:=by
 apply fy;intro i;by_cases e:i=n
 ·subst e;rw[ed h,h]
 ·rw[bs (Ne.symm e)]
theorem xw{M:MD}{j:Nat}{d:Dg}{v:AV}(h:M[j]?=some (d,v)):(cM M)[j]?=some (cj d,v):=by unfold cM;rw[cC,h];rfl
set_option maxHeartbeats 2000000 in
theorem YJ(n g:Nat)(id:Dg)(needs:List Dg)(C:Value)(M:MD)(V:dy)(c:Nat)(hc:c≤1000000000000)(L: ∀e∈V,e.2.length≤c)(s:List aa)(x:TS n M V s)(hg:s[g]?=some .hole)(Q:Exit→Fr→List aa→Prop)(tail:CC)
  (F: ∀(fr:Fr) (D:List aa) (M':MD),Bb.look fr 10=some (.d (.sc C))→Bb.look fr 3=some (.mp n)→Bb.look fr 5=some (.d (.sl 32 (needs.map aq)))→Bb.look fr 4=some (.ptr s.length 0)→D[s.length]?=some (.cells ((aq id).map .d))→D[g]?=some .hole→TS n M' (fC V id []) D→bR Tryz.prog none tail Q fr D):
  bR Tryz.prog none (.seq (.ops false [] Ca) (.seq
 (fo [om 16 3,o0 17 (.ld (some 32) (.t 4)),o0 19 (.bsf 32 0 [] []),o0 20 (.men true dD (.nil 32) (.t 16) (.t 17)),o0 18 (.ext (.t 20) 0),o0 21 (.app false 25 32 32 (.t 18) (.t 19)),o0 22 (.ext (.t 20) 1),oN (.mst (.t 16) (.t 22) (.t 21))]) tail)) Q
   ((13,.tup [.d (.agg (aq id)),.d (.sl 32 (needs.map aq))])::(10,.d (.sc C))::[(3,.mp n)]) s:=by
 have k:=x.app [aa.cells ((aq id).map .d)];have f:=k.map;have q:=bt hg [aa.cells ((aq id).map .d)];have b:(s++[aa.cells ((aq id).map .d)])[s.length]?=some (.cells ((aq id).map .d)):=by simp
 have m:dC dD (cj id) (cM M) 0=some (eE id M 0):=mw id M 0;have O:=(aR.1 x.map).1;have G:n≠g:=fun e=>by subst e;rw[x.map]at hg;cases hg
 unfold Ca;obtain⟨w,u⟩: ∃w,w=s++[aa.cells ((aq id).map .d)]:=⟨_,rfl⟩
 rw[←u]at k f q b;rcases k.find id with⟨E,o⟩|⟨j,v,l,E,o,h3,h4⟩
 ·rw[E]at m;have a:=k.none0 o;have H:(w.set n (.map true (cM (M++[(id,.nil 32)]))))[n]?=some (.map true (cM (M++[(id,.nil 32)]))):=ed f;have p:(cM (M++[(id,.nil 32)]))[M.length]?=some (cj id,.nil 32):=xw (by simp);have K:(cM (M++[(id,.nil 32)])).set M.length (cj id,.nil 32)=cM (M++[(id,.nil 32)]):=by rw[tt];simp
  repeat' first|refine ak (fun _=> ?_) fun _=> ?_|refine aD ?_|simp only[jm,bc,aL,←u,b,f,m,tu,Gq,H,p,K,List.set_set,wj,wy,qg,aC,reduceCtorEq,reduceIte,Nat.reduceAdd,Nat.reduceMul,Nat.reduceEqDiff,Nat.reduceLT,Nat.reduceLeDiff,Nat.reduceSub,ax,aB,ay,au]
  refine F _ _ _ ?_ ?_ ?_ ?_ (getSet b a8) (getSet q G) a<;>rfl
 ·rw[E]at m;have z:(cM M).set j (cj id,v)=cM M:=by
   rw[tt];congr 1;apply fy;intro i;by_cases e:i=j
   ·subst e;rw[dJ (aR.1 o).1,o]
   ·rw[bs (Ne.symm e)]
  have h:w.set n (.map true (cM M))=w:=wv f;have p:=xw o;rcases h4 with⟨rfl,rfl⟩|⟨r,rfl,y⟩
  ·have a:=k.hit0 o h3
   repeat' first|refine ak (fun _=> ?_) fun _=> ?_|refine aD ?_|simp only[jm,bc,aL,←u,b,f,m,z,h,p,wj,wy,qg,aC,reduceCtorEq,reduceIte,Nat.reduceAdd,Nat.reduceMul,Nat.reduceEqDiff,Nat.reduceLT,Nat.reduceLeDiff,Nat.reduceSub,ax,aB,ay,au]
   refine F _ _ _ ?_ ?_ ?_ ?_ b q a<;>rfl
  ·have a:=k.grow (news:=[]) o h3 y;rw[bg,aY,ay]at a;have N:l.length≤c:=L (id,l) (bT h3);have I:br l.length 32=true:=room_le a8 a8;have P:r≠n:=fun e=>by subst e;rw[f]at y;cases y
   have B:w.set r (.row 25 32 l.length)=w:=wv y;rw[B]at a;have A:(M.set j (id,.tsl r 32 (l.map aq)))=M:=by
    apply fy;intro i;by_cases e:i=j
    ·subst e;rw[dJ (aR.1 o).1,o]
    ·rw[bs (Ne.symm e)]
   rw[A,h]at a;have J:fc 25 32 l.length w[r]?=true:=by rw[y];simp[fc]
   repeat' first|refine ak (fun _=> ?_) fun _=> ?_|refine aD ?_|simp only[jm,bc,aL,←u,b,f,m,z,h,p,y,J,I,B,bg,ay,wj,wy,qg,aC,reduceCtorEq,reduceIte,Nat.reduceAdd,Nat.reduceMul,Nat.reduceEqDiff,Nat.reduceLT,Nat.reduceLeDiff,Nat.reduceSub,ax,aB,ay,au]
   refine F _ _ _ ?_ ?_ ?_ ?_ b q a<;>rfl
theorem xf{V:dy}{key:Dg}{news:List Dg}{c:Nat}(h: ∀e∈V,e.2.length≤c): ∀e∈fC V key news,e.2.length≤c+news.length:=fun e a=>by
 unfold fC at a;split at a
 ·obtain⟨b,h0,rfl⟩:=cy.1 a;have:=h b h0;split
  ·show(b.2++news).length≤_;rw[aN];omega
  ·omega
 ·rcases fL.1 a with a|a
  ·have:=h e a;omega
  ·simp at a;subst a;simp
def Cb:CC:=
 (.seq
 (fo [om 23 5,o0 24 (.len 0 (.t 23)),o0 25 (.mov (xi 0))])
 (.block 2
 (.loop
 (.trim [25,4,3,23,24,10]
 (.seq
 (fo [o0 26 (.bin .lss (.t 25) (.t 24))])
 (.seq
 (.cond (.t 26)
 .skip
 (.exit 2))
 (.seq
 (.block 3
 (.seq
 (fo [o0 27 (.iad 32 (.t 23) (.t 25)),o0 28 (.ld (some 32) (.t 27)),o0 7 (.box (.c (.agg cN))),oN (.st 32 (.t 7) (.t 28))])
 (fo [om 29 3,o0 30 (.ld (some 32) (.t 7)),o0 32 (.ld (some 32) (.t 4)),o0 33 (.bsf 32 1 cN [(0,32,(.t 32))]),o0 34 (.men true dD (.nil 32) (.t 29) (.t 30)),o0 31 (.ext (.t 34) 0),o0 35 (.app false 25 32 32 (.t 31) (.t 33)),o0 36 (.ext (.t 34) 1),oN (.mst (.t 29) (.t 36) (.t 35))])))
 (fo [o0 37 (.bin .add (.t 25) (xi 1)),om 25 37]))))))))
set_option maxHeartbeats 4000000 in
theorem YL(n g L:Nat)(id:Dg)(needs:List Dg)(hn:needs.length≤100000)(K:Value)(N:dy)(c:Nat)(hc:c≤1000000000000)(a0: ∀e∈N,e.2.length≤c)(fr:Fr)(W:List aa)(M0:MD)(O:Bb.look fr 10=some (.d (.sc K)))(f3:Bb.look fr 3=some (.mp n))(f5:Bb.look fr 5=some (.d (.sl 32 (needs.map aq))))(f4:Bb.look fr 4=some (.ptr L 0))
  (a1:W[L]?=some (.cells ((aq id).map .d))) (a2:W[g]?=some .hole) (Z:TS n M0 N W):
  bR Tryz.prog none Cb (fun e P s3=>e= .normal∧Bb.look P 10=some (.d (.sc K))∧Bb.look P 3=some (.mp n)∧s3[g]?=some .hole∧ ∃M',TS n M' (kN N id needs) s3) fr W:=by
 unfold Cb;refine aw (ga @O (ga @f3 (ga @f5 (ga @f4 @wj)))) trivial ?_
 refine aX.overI needs (fun k (b:MD×dy×List aa)=>[(25,iN k)]) (fun _ b=>b.2.2) (fun r b=>kN b.2.1 id r) (kN N id needs) (fun k b=>TS n b.1 b.2.1 b.2.2∧b.2.2[L]?=some (.cells ((aq id).map .d))∧b.2.2[g]?=some .hole∧ ∀e∈b.2.1,e.2.length≤c+k) (M0,N,W) a8 (fr0:=[(25,iN 0),(4,.ptr L 0),(3,.mp n),(23,.d (.sl 32 (needs.map aq))),(24,.d (dI needs.length)),(10,.d (.sc K))]) ?_ aA rfl rfl ⟨Z,a1,a2,fun e he=>by have:=a0 e he;omega⟩ (fun k b x J hk S hw z Y=> ?_) (fun b S z Y=> ?_)
 ·simp only[dV,List.filterMap_cons,List.filterMap_nil,Bb.look,O,f3,f4,eY,if_true,if_false,reduceIte,Nat.reduceEqDiff];rfl
 ·obtain⟨M,V,s⟩:=b;obtain⟨G,hb,hg,Q⟩:=Y;dsimp only at z G hb hg Q;rw[kN]at z;have q:=G.app [aa.cells ((aq x).map .d)];have f:=q.map;have u:=bt hg [aa.cells ((aq x).map .d)];have h:=bt hb [aa.cells ((aq x).map .d)];have F:(s++[aa.cells ((aq x).map .d)])[s.length]?=some (.cells ((aq x).map .d)):=by simp
  have t:dC dD (cj x) (cM M) 0=some (eE x M 0):=mw x M 0;have b0:=(aR.1 G.map).1;have C:n≠g:=fun e=>by subst e;rw[G.map]at hg;cases hg
  have B:n≠L:=fun e=>by subst e;rw[G.map]at hb;cases hb
  have I: ∀e∈fC V x [id],e.2.length≤c+(k+1):=fun e he=>by have:=xf (news:=[id]) Q e he;simpa[jv]using this
  have U:br 1 32=true:=by decide
  have T:[aq id].flatten=aq id:=by simp
  obtain⟨p,E⟩: ∃p,p=s++[aa.cells ((aq x).map .d)]:=⟨_,rfl⟩
  rw[←E]at q f u h F;rcases q.find x with⟨X,H⟩|⟨j,v,l,X,H,h3,h4⟩
  ·rw[X]at t;have a:=q.new1 (x:=id) (M':=M++[(x,.tsl p.length 32 [aq id])]) (o:= .map true (cM (M++[(x,.nil 32)]))) ⟨_,rfl⟩ (.inl ⟨H,rfl⟩);have w:(p.set n (.map true (cM (M++[(x,.nil 32)])))++[aa.row 25 32 1])[n]?=some (.map true (cM (M++[(x,.nil 32)]))):=bt (ed f) _;have A:(cM (M++[(x,.nil 32)]))[M.length]?=some (cj x,.nil 32):=xw (by simp)
   have y:(cM (M++[(x,.nil 32)])).set M.length (cj x,.tsl p.length 32 [aq id])=cM (M++[(x,.tsl p.length 32 [aq id])]):=by rw[tt];simp
   repeat' first|refine ak (fun _=> ?_) fun _=> ?_|refine aD ?_|simp only[S,hw,J,jm,bc,aL,←E,F,h,f,t,tu,Gq,w,A,y,U,T,iB,wj,wy,qg,aC,reduceCtorEq,reduceIte,Nat.reduceAdd,Nat.reduceMul,Nat.reduceEqDiff,Nat.reduceLT,Nat.reduceLeDiff,Nat.reduceSub,ax,aB,ay,au]
   exact⟨(_,fC V x [id],_),rfl,z,a,getSet (bt (getSet h B) _) B,getSet (bt (getSet u C) _) C,I⟩
  ·rw[X]at t;have R:(cM M).set j (cj x,v)=cM M:=by
    rw[tt];congr 1;apply fy;intro i;by_cases e:i=j
    ·subst e;rw[dJ (aR.1 H).1,H]
    ·rw[bs (Ne.symm e)]
   have m:p.set n (.map true (cM M))=p:=wv f;have A:=xw H;rcases h4 with⟨rfl,rfl⟩|⟨r,rfl,D⟩
   ·have a:=q.new1 (x:=id) (M':=M.set j (x,.tsl p.length 32 [aq id])) (o:= .map true (cM M)) ⟨_,rfl⟩ (.inr ⟨j,_,H,h3,rfl⟩);rw[m]at a;have w:(p++[aa.row 25 32 1])[n]?=some (.map true (cM M)):=bt f _;have y:(cM M).set j (cj x,.tsl p.length 32 [aq id])=cM (M.set j (x,.tsl p.length 32 [aq id])):=tt _ _ _ _
    repeat' first|refine ak (fun _=> ?_) fun _=> ?_|refine aD ?_|simp only[S,hw,J,jm,bc,aL,←E,F,h,f,t,R,m,w,A,y,U,T,wj,wy,qg,aC,reduceCtorEq,reduceIte,Nat.reduceAdd,Nat.reduceMul,Nat.reduceEqDiff,Nat.reduceLT,Nat.reduceLeDiff,Nat.reduceSub,ax,aB,ay,au]
    exact⟨(_,fC V x [id],_),rfl,z,a,getSet (bt h _) B,getSet (bt u _) C,I⟩
   ·have a:=q.grow (news:=[id]) H h3 D;have a9:l.length≤c+k:=Q (x,l) (bT h3);have a5:br (l.length+1) 32=true:=room_le a8 a8;have a6:r≠n:=fun e=>by subst e;rw[f]at D;cases D
    have a3:r≠L:=fun e=>by subst e;rw[h]at D;cases D
    have a4:r≠g:=fun e=>by subst e;rw[u]at D;cases D
    have a7:fc 25 32 l.length p[r]?=true:=by rw[D];simp[fc]
    have w:(p.set r (.row 25 32 (l.length+1)))[n]?=some (.map true (cM M)):=getSet f a6;have y:(cM M).set j (cj x,.tsl r 32 (l.map aq++[aq id]))=cM (M.set j (x,.tsl r 32 (l.map aq++[aq id]))):=tt _ _ _ _;rw[eX,bO,eg,qP]at a
    repeat' first|refine ak (fun _=> ?_) fun _=> ?_|refine aD ?_|simp only[S,hw,J,jm,bc,aL,←E,F,h,f,t,R,m,w,A,y,D,a7,a5,wj,wy,qg,aC,reduceCtorEq,reduceIte,Nat.reduceAdd,Nat.reduceMul,Nat.reduceEqDiff,Nat.reduceLT,Nat.reduceLeDiff,Nat.reduceSub,ax,aB,ay,au]
    exact⟨(_,fC V x [id],_),rfl,z,a,getSet (getSet h a3) B,getSet (getSet u a4) C,I⟩
 ·obtain⟨M,V,s⟩:=b;obtain⟨G,hb,hg,Q⟩:=Y;dsimp only at z G hb hg Q;rw[kN]at z;refine aw (ga @S @wj) trivial ?_
  all_goals first|exact⟨hg,M,by rw[z];exact G⟩|trace_state
end Go.Proofs.Q
