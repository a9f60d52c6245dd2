/- Part of a proof. -/
import Derived.Test.YtfoljakejdgfcaaGreatDoorPBQ
import Derived.Test.YtfoljakejdgfcaaGreatDoorBbZ
set_option linter.unusedVariables false
set_option linter.unusedSimpArgs false
namespace Go.Proofs.Q
open Go Go.Bb Go.RowKit Go.Proofs.Lg
open Go.Ab (D RD)
theorem YY(x:bU)(k:Nat)(g:FuncId)(e a:List AV)(b:Bool)(s:List aa)(f:s[k]?=some (.cells [.clo g e a]))(h: ∀K,(∀c,K (.d (dB b)) s c)→aj Tryz.prog (.clo g e a) [.d (.agg (aq x.id))] s K):
  aT Tryz.prog 79 [.d (.agg (b8 x)),.ptr k 0] s fun d i=>d= .d (dB b)∧i=s:=by
 refine aT.of (F:=Bl) TQ (by simp[Bl]) ?_;simp only[Bl]
 repeat' first|refine ak (fun _=> ?_) fun _=> ?_|refine h _ (fun c=> ?_)|refine bb (ga @f @wj) trivial ?_|exact ba (ga @f @wj) trivial|fail
 all_goals first|rfl|exact⟨rfl,rfl⟩|(simp_all;done)|trace_state
theorem LN(l:aP)(w:l.length≤1000000)(g:FuncId)(h e:List AV)(p:Dg→Bool)(s:List aa)(b: ∀(x:bU) (c:List aa) (K:AV→List aa→Nat→Prop),x∈l→gH 0 s c→(∀C,K (.d (dB (p x.id))) c C)→aj Tryz.prog (.clo g h e) [.d (.agg (aq x.id))] c K):
  aT Tryz.prog 39 [.d (.sl 37 (l.map b8)),.clo g h e] s fun d z=>gH 0 s z∧ ∀f,bu z (f+2) d=some (.sl 37 ((l.filter (fun x=> !p x.id)).map b8)):=by
 have t:=(gH.refl 0 s).app [.cells [.clo g h e]];cases l with
 |nil=>
  have m:=fun s=>GF 37 s;refine aT.of (F:=s7) Jx (by simp[s7]) ?_;simp only[s7];refine pY @wj (ga (GF 37) @Om) ?_
  all_goals first|exact⟨t,fun f=>rfl⟩|trace_state
 |cons x l=>
  have m:=NT x l (by rw[aU]at w;omega)
  have B:=On (s:=s++[.cells [.clo g h e],.vec 44 37 (eN (x::l))]) (i:=s.length+1) (x::l) (by simp) w 79 [] [.ptr s.length 0] (fun x=>p x.id) (fun y c K E v D=>aj.fn ((YY y s.length g h e (p y.id) c (v s.length _ (fM _) (by simp)) (fun A n=>b y c A E (fun j a _ k=>v j a (fM _) (by
   have q:=(aR.1 k).1;rw[eQ q];exact k)) n)).mono (by rintro _ _ ⟨rfl,rfl⟩;exact D 2)))
  refine aT.of (F:=s7) Jx (by simp[s7]) ?_;simp only[s7]
  repeat' first|refine ak (fun _=> ?_) fun _=> ?_|(refine aj.fn (B.mono ?_);rintro d c ⟨r,o⟩)|refine bb @wj @m ?_|exact ba @wj @m|fail
  have u:=iH Tryz.prog d;refine aw (ga @u @wj) trivial ?_
  all_goals first|exact⟨fun j a _ k=>r j a (fM _) (by rw[eQ (aR.1 k).1];exact k),o⟩|trace_state
theorem YR(x d:Dg):aE Tryz.prog 40 [.agg (aq x),.ref (aq d)] (dB (decide (x=d))):=by
 refine aI (F:=Bg) TL (by simp[Bg]) ?_;simp only[Bg]
 repeat' first|refine ak (fun _=> ?_) fun _=> ?_|refine bb trivial trivial ?_|exact ba trivial trivial|fail
 all_goals first|rfl|(simp_all;done)|trace_state
theorem YS(l:aP)(f:l.length≤1000000)(m: ∀x∈l,cV x.pat∧e8 x.pat)(d:Dg):aE Tryz.prog 12 [.sl 37 (l.map b8),.agg (aq d)] (.tup [.sl 37 ((we l d).1.map b8),dI (we l d).2]):=by
 have a:=Bx l f d;have b:=YX l f m d;unfold we;by_cases hg:bM l d=none
 ·rw[if_pos hg];rw[hg]at a;refine aI (F:=nv) E4 (by simp[nv]) ?_;simp only[nv];exact bx (ga @ew (ga @c9 @wj)) @a
  all_goals first|rfl|trace_state
 ·rw[if_neg hg];obtain⟨i,h⟩: ∃i,bM l d=some i:=Option.ne_none_iff_exists'.1 hg;rw[h]at a;by_cases c:oP d l=true
  ·rw[if_pos c];rw[c]at b;refine aI (F:=nv) E4 (by simp[nv]) ?_;simp only[nv];exact bx (ga @ew (ga @c9 @wj)) (ga @a @b)
   all_goals first|rfl|trace_state
  ·rw[if_neg c];rw[show oP d l=false by simpa using c]at b;have j:=fun s=>LN l f 40 [] [.d (.ref (aq d))] (fun x=>decide (x=d)) s (fun x n K _ _ k=>aj.data (YR x.id d) rfl (k 0));refine aI (F:=nv) E4 (by simp[nv]) ?_;simp only[nv]
   repeat' first|refine ak (fun _=> ?_) fun _=> ?_|(refine aj.fn ((j _).mono ?_);rintro v n ⟨_,e⟩)|refine bb (ga @ew (ga @c9 @wj)) (ga @a @b) ?_|exact ba (ga @ew (ga @c9 @wj)) (ga @a @b)|fail
   have g:=iH Tryz.prog v;refine aw (ga @g @wj) trivial ?_;rw[e 2];rfl
abbrev MD:=List (Dg×AV)
def cM(m:MD):List (List Value×AV):=m.map fun e=>(cj e.1,e.2)
def eE(d:Dg):MD→Nat→Option (Nat×AV)
 |[],_=>none
 |e::m,i=>if d=e.1 then some (i,e.2)else eE d m (i+1)
theorem mw(d:Dg): ∀(m:MD) (i:Nat),dC dD (cj d) (cM m) i=some (eE d m i)
 |[],_=>rfl
 |e::m,i=>by
  show((bw dD (cj d) (cj e.1)).bind fun b=>if b=true then some (some (i,e.2))else dC dD (cj d) (cM m) (i+1))=_;rw[Hg,dF,mw d m (i+1),eE];by_cases h:d=e.1<;>simp[h]
theorem Gq(m:MD):(cM m).length=m.length:=aL _
theorem NM(a b:MD):cM (a++b)=cM a++cM b:=eX
theorem tu(a:MD)(d:Dg)(v:AV):cM a++[(cj d,v)]=cM (a++[(d,v)]):=by rw[NM];rfl
theorem tt(m:MD)(i:Nat)(d:Dg)(v:AV):(cM m).set i (cj d,v)=cM (m.set i (d,v)):=by unfold cM;rw[List.map_set]
theorem vk{d:Dg}: ∀{m:MD} {i:Nat},eE d m i=none↔d∉m.map (·.1)
 |[],_=>by simp[eE]
 |e::m,i=>by
  rw[eE,bO,bY];by_cases h:d=e.1
  ·simp[h]
  ·rw[if_neg h,vk];simp[h]
theorem wu(es:List (List Value×AV))(key:List Value)(v:AV):p6 es key v none=es++[(key,v)]:=rfl
theorem Y2(es:List (List Value×AV))(key:List Value)(v:AV)(i:Nat)(y:AV):p6 es key v (some (i,y))=es.set i (key,v):=rfl
def gS(l:aP):MD:=l.map fun x=>(x.id,.d (.sl 32 ((bB x.pat).map aq)))
set_option maxHeartbeats 1000000 in
theorem HL(l:aP)(v:l.length≤1000000)(m: ∀x∈l,cV x.pat∧e8 x.pat)(g:(bA l).Nodup):aT Tryz.prog 82 [.d (.sl 37 (l.map b8))] [] fun d u=>d= .mp 0∧u[0]?=some (.map true (cM (gS l))):=by
 refine aT.of (F:=zK) Sy (by simp[zK]) ?_;simp only[zK];refine aw @wj trivial ?_;refine aX.overI l (fun k (b:List aa)=>[(9,iN k)]) (fun k b=> .map true (cM (gS (l.take k)))::b) (fun _ _=>()) () (fun _ _=>True) ([]:List aa) a8 aA aA (by simp[gS,cM]) rfl trivial (fun k b x hg j c t p _=> ?_) (fun b c p _=> ?_)
 ·have n:=bT hg;have o:=JI x.pat (m x n).1 (m x n).2;have q:eE x.id (gS (l.take k)) 0=none:=by
   rw[vk];intro hm;have a:(gS (l.take k)).map (·.1)=(bA l).take k:=by unfold gS bA;rw[lk,List.map_take];rfl
   rw[a]at hm;obtain⟨i,hi⟩:=jR hm;rw[gb]at hi;split at hi
   ·rename_i r;have h:(bA l)[k]?=some x.id:=by unfold bA;rw[cC,hg];rfl
    have f:k<(bA l).length:=by unfold bA;rw[aL];exact j
    have:=(List.getElem?_inj f g).1 (h.trans hi.symm);omega
   ·cases hi
  have s:gS (l.take (k+1))=gS (l.take k)++[(x.id,.d (.sl 32 ((bB x.pat).map aq)))]:=by
   have a:l.take (k+1)=l.take k++[x]:=by rw[qS j];congr 2;exact(aR.1 hg).2
   rw[a];unfold gS;rw[eX];rfl
  have e:dC dD (cj x.id) (cM (gS (l.take k))) 0=some none:=by rw[mw,q]
  repeat' first|refine ak (fun _=> ?_) fun _=> ?_|refine aD ?_|refine aj.data (o) rfl ?_|simp only[c,t,hg,e,wu,tu,←s,FF,iw,aL,wj,wy,qg,aC,reduceCtorEq,reduceIte,Nat.reduceAdd,Nat.reduceMul,Nat.reduceEqDiff,Nat.reduceLT,Nat.reduceLeDiff,Nat.reduceSub,ax,aB,ay,au]
  all_goals exact⟨_,rfl⟩
 ·rw[dm (bh _)];exact bx (ga @c @wj) trivial
  all_goals first|rfl|trace_state
def ml(a:Dg→Bool):List Dg→List Dg→Bool×List Dg
 |[],O=>(true,O)
 |d::l,O=>if a d=true then ml a l (if bN O d=true then O else O++[d])else(false,O)
def fb(O:List Dg):MD:=O.map fun d=>(d,.d (dB true))
def qb(G:MD)(d:Dg):Bool:=(eE d G 0).isSome
theorem yd(d:Dg): ∀(O:List Dg) (i:Nat),if bN O d=true then∃j,eE d (fb O) i=some (j,.d (dB true))else eE d (fb O) i=none
 |[],i=>by simp[bN,fb,eE]
 |e::O,i=>by
  have b:=yd d O (i+1);show if bN (e::O) d=true then∃j,(if d=e then some (i,_)else eE d (fb O) (i+1))=_ else(if d=e then some (i,_)else eE d (fb O) (i+1))=none;by_cases h:d=e
  ·subst h;rw[if_pos ((kU _ _).2 (by simp))];exact⟨i,if_pos rfl⟩
  ·rw[if_neg h];have a:bN (e::O) d=bN O d:=by rw[nQ,kU,kU];simp[h]
   rw[a];exact b
theorem jm{vs:List AV}(h:vs.length=32):aV ((aq .zero).map .d) 0 32 vs=some vs:=gp (by simp[bc]) h
structure RS(G:MD)(a g0 b mi c:Nat)(O:List Dg)(s:List aa):Prop where
 ha:s[a]?=some (.cells [.mp g0])
 hg:s[g0]?=some (.map true (cM G))
 hb:s[b]?=some (.cells [.mp mi])
 hm:s[mi]?=some (.map true (cM (fb O)))
 hne:g0≠mi
 hc:(O=[]∧s[c]?=some (.cells [.nil 32]))∨(O≠[]∧ ∃v,s[c]?=some (.cells [.vec v O.length 32])∧s[v]?=some (.vec 25 32 (cz O)))
 nd:O.Nodup
 sub: ∀d∈O,d∈G.map (·.1)
theorem bt{s:List aa}{i:Nat}{o:aa}(h:s[i]?=some o)(l:List aa):(s++l)[i]?=some o:=by
 rw[eQ (aR.1 h).1];exact h
theorem getSet{s:List aa}{i j:Nat}{o o':aa}(h:s[i]?=some o)(a:j≠i):(s.set j o')[i]?=some o:=by
 rw[bs a];exact h
theorem ed{s:List aa}{i:Nat}{o o':aa}(h:s[i]?=some o):(s.set i o')[i]?=some o':=by
 rw[dJ (aR.1 h).1]
theorem RS.app{G:MD}{a f b g c:Nat}{O:List Dg}{s:List aa}(h:RS G a f b g c O s)(l:List aa):RS G a f b g c O (s++l):=
 ⟨bt h.ha l,bt h.hg l,bt h.hb l,bt h.hm l,h.hne,h.hc.imp (fun⟨d,e⟩=>⟨d,bt e l⟩) fun⟨d,v,e,i⟩=>⟨d,v,bt e l,bt i l⟩,h.nd,h.sub⟩
theorem Qm(O:List Dg)(x:Dg):fb O++[(x,.d (dB true))]=fb (O++[x]):=by simp[fb]
structure me(G:MD)(a g0 b mi:Nat)(O:List Dg)(s:List aa):Prop where
 ha:s[a]?=some (.cells [.mp g0])
 hg:s[g0]?=some (.map true (cM G))
 hb:s[b]?=some (.cells [.mp mi])
 hm:s[mi]?=some (.map true (cM (fb O)))
 hne:g0≠mi
 nd:O.Nodup
 sub: ∀d∈O,d∈G.map (·.1)
theorem RS.put{G:MD}{a i b g c:Nat}{O:List Dg}{s:List aa}(h:RS G a i b g c O s)(x:Dg)(k: ¬bN O x=true)(j:x∈G.map (·.1)):me G a i b g (O++[x]) (s.set g (.map true (cM (fb O++[(x,.d (dB true))])))):=
 ⟨getSet h.ha (fun e=>by have:=h.ha;rw[←e,h.hm]at this;cases this),getSet h.hg (Ne.symm h.hne),getSet h.hb (fun e=>by have:=h.hb;rw[←e,h.hm]at this;cases this),by rw[Qm];exact ed h.hm,h.hne,
  List.nodup_append.2 ⟨h.nd,by simp,fun a ha b hb e=>k ((kU _ _).2 (by rw[pw]at hb;rw[←hb,←e];exact ha))⟩,
  fun d f=>by rcases fL.1 f with f|f;exact h.sub d f;rw[pw]at f;rw[f];exact j⟩
theorem me.app{G:MD}{a c b d:Nat}{O:List Dg}{s:List aa}(h:me G a c b d O s)(l:List aa):me G a c b d O (s++l):=
 ⟨bt h.ha l,bt h.hg l,bt h.hb l,bt h.hm l,h.hne,h.nd,h.sub⟩
theorem me.set{G:MD}{a d b k:Nat}{O:List Dg}{s:List aa}(h:me G a d b k O s){c:Nat}{o o':aa}(hc:s[c]?=some o)(l: ∀g,o≠ .cells [.mp g])(m: ∀e,o≠ .map true e):me G a d b k O (s.set c o'):=
 have f: ∀{i g},s[i]?=some (.cells [.mp g])→c≠i:=fun h e=>by subst e;rw[hc]at h;exact l _ (az h)
 have j: ∀{i e},s[i]?=some (.map true e)→c≠i:=fun h e=>by subst e;rw[hc]at h;exact m _ (az h)
 ⟨getSet h.ha (f h.ha),getSet h.hg (j h.hg),getSet h.hb (f h.hb),getSet h.hm (j h.hm),h.hne,h.nd,h.sub⟩
theorem me.nil{G:MD}{a i b j c:Nat}{x:Dg}{s:List aa}(h:me G a i b j [x] s)(hc:s[c]?=some (.cells [.nil 32])):RS G a i b j c [x] ((s++[aa.vec 25 32 ((aq x).map .d)]).set c (.cells [.vec s.length 1 32])):=by
 have k:=(aR.1 hc).1;have f:=(h.app [.vec 25 32 ((aq x).map .d)]).set (o':= .cells [.vec s.length 1 32]) (bt hc _) (fun g e=>by cases e) (fun g e=>by cases e);exact⟨f.ha,f.hg,f.hb,f.hm,f.hne,.inr ⟨by simp,s.length,ed (bt hc _),by rw[tq];exact getSet (by simp) a8⟩,f.nd,f.sub⟩
theorem me.vec{G:MD}{a k b l c v:Nat}{O:List Dg}{x:Dg}{s:List aa}(h:me G a k b l (O++[x]) s)(hc:s[c]?=some (.cells [.vec v O.length 32]))(j:s[v]?=some (.vec 25 32 (cz O))):RS G a k b l c (O++[x]) ((s.set v (.vec 25 32 (cz (O++[x])))).set c (.cells [.vec v (O.length+1) 32])):=by
 have i:v≠c:=fun e=>by subst e;rw[hc]at j;cases j
 have f:(s.set v (.vec 25 32 (cz (O++[x]))))[c]?=some (.cells [.vec v O.length 32]):=getSet hc i;have d:=(h.set (o':= .vec 25 32 (cz (O++[x]))) j (fun g e=>by cases e) (fun g e=>by cases e)).set (o':= .cells [.vec v (O.length+1) 32]) f (fun g e=>by cases e) (fun g e=>by cases e)
 exact⟨d.ha,d.hg,d.hb,d.hm,d.hne,.inr ⟨by simp,v,by rw[aN];exact ed f,getSet (ed j) (Ne.symm i)⟩,d.nd,d.sub⟩
set_option maxHeartbeats 2000000 in
theorem JP(G:MD)(Y:G.length≤100000)(a N b L c:Nat)(l:List Dg)(hl:l.length≤1000000000000)(O:List Dg)(s:List aa)(h:RS G a N b L c O s):
  aT Tryz.prog 119 [.d (.sl 32 (l.map aq)),.ptr a 0,.ptr b 0,.ptr c 0] s fun d s'=>d= .d (dB (ml (qb G) l O).1)∧RS G a N b L c (ml (qb G) l O).2 s':=by
 refine aT.of (F:=zM) SA (by simp[zM]) ?_;simp only[zM];refine aw @wj trivial ?_
 refine aX.overI l (fun k (b:List Dg×List aa)=>[(12,iN k)]) (fun _ b=>b.2) (fun r b=>ml (qb G) r b.1) (ml (qb G) l O) (fun _ V=>RS G a N b L c V.1 V.2) (O,s) a8 aA aA rfl rfl h (fun k b x hg hk J M j o=> ?_) (fun b J j o=> ?_)
 ·obtain⟨O,s⟩:=b;dsimp only at j o;rw[ml]at j;have X:O.length≤100000:=eS (tS o.nd o.sub) (by rw[aL];exact Y);have g:=o.app [aa.cells ((aq x).map .d)];have u:=g.ha;have w:=g.hg;have B:=g.hb;have E:=g.hm;have m:dC dD (cj x) (cM G) 0=some (eE x G 0):=mw x G 0
  have q:dC dD (cj x) (cM (fb O)) 0=some (eE x (fb O) 0):=mw x (fb O) 0;have i:=yd x O 0;cases t:eE x G 0 with
  |none=>
   rw[t]at m;rw[if_neg (by unfold qb;rw[t];decide)]at j;refine aw (ga @J (ga @M (ga @hg (ga @jm (ga @bc (ga @u (ga @w (ga @m @wj)))))))) trivial ?_;rw[j];exact⟨rfl,g⟩
  |some r=>
   obtain⟨gi,W⟩:=r;rw[t]at m;have U:x∈G.map (·.1):=by
    have: ¬eE x G 0=none:=by rw[t];simp
    rw[vk]at this;exact iK this
   rw[if_pos (by unfold qb;rw[t];rfl)]at j;by_cases P:bN O x=true
   ·rw[if_pos P]at j i;obtain⟨mj,S⟩:=i;rw[S]at q;have y:=iH Tryz.prog W;refine aw (ga @J (ga @M (ga @hg (ga @jm (ga @bc (ga @u (ga @w (ga @m (ga @B (ga @E (ga @q (ga @y @wj)))))))))))) trivial ?_;exact⟨(O,_),rfl,j,g⟩
   ·rw[if_neg P]at j i;rw[i]at q;have y:=iH Tryz.prog W;have Z:=(aR.1 o.hm).1;have A:((s++[aa.cells ((aq x).map .d)]).set L (.map true (cM (fb O++[(x,.d (dB true))]))))[s.length]?=some (.cells ((aq x).map .d)):=getSet (by simp) a8;have I:=g.put x P U
    obtain⟨s2,n⟩: ∃s2,s2=(s++[aa.cells ((aq x).map .d)]).set L (.map true (cM (fb O++[(x,.d (dB true))]))):=⟨_,rfl⟩
    rw[←n]at A I;rcases o.hc with⟨K,hc⟩|⟨K,v,hc,T⟩
    ·have f:s2[c]?=some (.cells [.nil 32]):=by rw[n];exact getSet (bt hc _) (fun e=>by subst e;rw[o.hm]at hc;cases hc)
     have H:br 1 32=true:=by decide
     subst K;have D:[aq x].flatten=aq x:=by simp
     have C:(s2++[aa.vec 25 32 ((aq x).map .d)])[c]?=some (.cells [.nil 32]):=bt f _;have p:=I.nil f
     repeat' first|refine ak (fun _=> ?_) fun _=> ?_|refine aD ?_|simp only[J,M,hg,jm,bc,aL,u,w,m,B,E,q,y,wu,tu,←n,f,A,H,D,C,wj,wy,qg,aC,reduceCtorEq,reduceIte,Nat.reduceAdd,Nat.reduceMul,Nat.reduceEqDiff,Nat.reduceLT,Nat.reduceLeDiff,Nat.reduceSub,ax,aB,ay,au]
     exact⟨([x],_),rfl,j,p⟩
    ·have f:s2[c]?=some (.cells [.vec v O.length 32]):=by rw[n];exact getSet (bt hc _) (fun e=>by subst e;rw[o.hm]at hc;cases hc)
     have z:s2[v]?=some (.vec 25 32 (cz O)):=by rw[n];exact getSet (bt T _) (fun e=>by subst e;rw[o.hm]at T;cases T)
     have H:br (O.length+1) 32=true:=room_le a8 a8;have Q:=k8 O;have D:[aq x].flatten=aq x:=by simp
     have R:cz O++(aq x).map .d=cz (O++[x]):=by rw[tn,tq]
     have C:(s2.set v (.vec 25 32 (cz (O++[x]))))[c]?=some (.cells [.vec v O.length 32]):=getSet f (fun e=>by subst e;rw[f]at z;cases z);have p:=I.vec f z
     repeat' first|refine ak (fun _=> ?_) fun _=> ?_|refine aD ?_|simp only[J,M,hg,jm,bc,aL,u,w,m,B,E,q,y,wu,tu,←n,f,A,z,Q,H,D,R,C,wj,wy,qg,aC,reduceCtorEq,reduceIte,Nat.reduceAdd,Nat.reduceMul,Nat.reduceEqDiff,Nat.reduceLT,Nat.reduceLeDiff,Nat.reduceSub,ax,aB,ay,au]
     exact⟨(O++[x],_),rfl,j,p⟩
 ·rw[ml]at j;refine aw (ga @J @wj) trivial ?_
  all_goals rw[j]
  all_goals exact⟨rfl,o⟩
theorem aT.toD1{P:Program}{f:FuncId}{x:AV}{d:D}{l:List AV}{s:List aa}{K:AV→List aa→Prop}(n:x.toD=some d)(h:aT P f (.d d::l) s K):aT P f (x::l) s K:=by
 obtain⟨r,o,g,m⟩:=h;refine⟨r,o,⟨g.enters,fun B k w p b a=>g.calls B k w p b ⟨by simpa using a.1,fun i u e j c=> ?_⟩⟩,m⟩;cases i with
 |zero=>cases c;exact .d ((a.2 0 u x j rfl).toD n)
 |succ i=>exact a.2 (i+1) u e j c
theorem PD(f:AV)(s:List aa):aT Tryz.prog 217 [.nil 32,.d (dI 0),.d (dI 0),f] s fun d c=>d= .tup []∧c=s:=by
 have b:IntKind.i64.wrap (0+1)=1:=by rfl
 have a:decide ((1:Int)<0)=false:=by decide
 refine aT.of (F:=rC) IT (by simp[rC]) ?_;simp only[rC];refine aw (ga @b @wj) trivial ?_;refine aX.tr (fun(_:Unit)=>[(8,.d (dI 1))]) (fun _=>s) (fun _ _=>True) 0 () aA aA rfl trivial ?_;intro m _ _;exact bx (ga @a @wj) trivial
 all_goals first|rfl|exact⟨rfl,rfl⟩
theorem Uz(f:FuncId)(s:List aa):aT Tryz.prog 164 [.nil 32,.d (dI 0),.d (dI 0),.d (dI 0),.clo f [] []] s fun d e=>d= .tup []∧e=s:=by
 have a:=PD (.clo f [] []) s;have c:IntKind.i64.wrap (0-0)=0:=by rfl
 have b:decide ((0:Int)≤12)=true:=by decide
 refine aT.of (F:=rJ) J0 (by simp[rJ]) ?_;simp only[rJ];refine aw @wj trivial ?_;refine aX.tr (fun(_:Unit)=>[]) (fun _=>s) (fun _ _=>True) 0 () aA aA rfl trivial ?_;intro m _ _;exact vr (ga @c (ga @b @wj)) @a
 all_goals first|rfl|exact⟨rfl,rfl⟩
theorem Yq(f:FuncId)(s:List aa):aT Tryz.prog 116 [.nil 32,.clo f [] []] s fun d c=>d= .tup []∧c=s:=by
 have a:=Uz f s;refine aT.of (F:=ru) IN (by simp[ru]) ?_;simp only[ru];have b:IntKind.u64.wrap 0=0:=by rfl
 repeat' first|refine ak (fun _=> ?_) fun _=> ?_|refine bb (ga @b @wj) (ga @tk @a) ?_|exact ba (ga @b @wj) (ga @tk @a)|fail
 all_goals first|rfl|exact⟨rfl,rfl⟩
def kM:List Dg→List Dg→List Dg
 |[],O=>O
 |d::l,O=>kM l (if bN O d=true then O else O++[d])
theorem CG(a:Dg→Bool): ∀(l O:List Dg),(∀d∈l,a d=true)→ml a l O=(true,kM l O)
 |[],O,_=>rfl
 |d::l,O,h=>by rw[ml,kM,if_pos (h d (by simp)),CG a l _ fun x b=>h x (by simp[b])]
theorem G1(a:Dg→Bool): ∀(l O:List Dg) (d:Dg),d∈l→ ¬a d=true→(ml a l O).1=false
 |e::l,O,d,h,hk=>by
  rw[ml];by_cases b:a e=true
  ·rw[if_pos b];rcases bY.1 h with rfl|h
   ·exact absurd b hk
   ·exact G1 a l _ d h hk
  ·rw[if_neg b]
theorem sd(x:Dg): ∀(l O:List Dg),x∈kM l O↔x∈l∨x∈O
 |[],O=>by simp[kM]
 |d::l,O=>by
  rw[kM,sd x l];by_cases h:bN O d=true
  ·rw[if_pos h];have:=(kU O d).1 h;constructor
   ·rintro(h|h)
    ·exact .inl (by simp[h])
    ·exact .inr h
   ·rintro(h|h)
    ·rcases bY.1 h with rfl|h
     ·exact .inr this
     ·exact .inl h
    ·exact .inr h
  ·rw[if_neg h];simp only[fL,bY,List.not_mem_nil,or_false];constructor
   ·rintro(h|h|h)
    ·exact .inl (.inr h)
    ·exact .inr h
    ·exact .inl (.inl h)
   ·rintro((h|h)|h)
    ·exact .inr (.inr h)
    ·exact .inl h
    ·exact .inr (.inl h)
theorem G0: ∀(l O:List Dg),∃Z,kM l O=O++Z
 |[],O=>⟨[],by simp[kM]⟩
 |d::l,O=>by
  rw[kM];obtain⟨Z,a⟩:=G0 l (if bN O d=true then O else O++[d]);rw[a];split
  ·exact⟨Z,rfl⟩
  ·exact⟨[d]++Z,by simp⟩
inductive pE(N:Dg→List Dg)(ids:List Dg):Dg→Prop
 |base {x:Dg}:x∈ids→pE N ids x
 |step {y x:Dg}:pE N ids y→x∈N y→pE N ids x
structure ot(N:Dg→List Dg)(ids:List Dg)(i:Nat)(O:List Dg):Prop where
 le:i≤O.length
 base: ∀x∈ids,x∈O
 rch: ∀x∈O,pE N ids x
 step: ∀j y,j<i→O[j]?=some y→ ∀x∈N y,x∈O
theorem ot.start(N:Dg→List Dg)(a:List Dg):ot N a 0 (kM a []):=
 ⟨fM _,fun x b=>(sd x a []).2 (.inl b),fun x b=>(by rcases(sd x a []).1 b with h|h;exact .base h;cases h),fun _ _ h=>absurd h a8⟩
theorem ot.next{N:Dg→List Dg}{b:List Dg}{i:Nat}{O:List Dg}(h:ot N b i O){y:Dg}(d:O[i]?=some y):ot N b (i+1) (kM (N y) O):=by
 obtain⟨Z,e⟩:=G0 (N y) O;have g:=(aR.1 d).1;refine⟨by rw[e,aN];omega,fun x a=>(sd x _ _).2 (.inr (h.base x a)),fun x a=> ?_,fun j z f c x a=> ?_⟩
 ·rcases(sd x _ _).1 a with a|a
  ·exact .step (h.rch y (bT d)) a
  ·exact h.rch x a
 ·rw[e,eQ a8]at c;rcases Nat.lt_succ_iff_lt_or_eq.1 f with hlt|rfl
  ·exact(sd x _ _).2 (.inr (h.step j z hlt c x a))
  ·rw[d]at c;cases c;exact(sd x _ _).2 (.inl a)
theorem ot.done{N:Dg→List Dg}{a:List Dg}{O:List Dg}(h:ot N a O.length O)(x:Dg):x∈O↔pE N a x:=by
 refine⟨h.rch x,fun e=> ?_⟩
 induction e with
 |base c=>exact h.base _ c
 |step _ d f=>
  obtain⟨j,b⟩:=jR f;exact h.step j _ (aR.1 b).1 b _ d
theorem Oj{s:List aa}{v:Nat}{L:List Dg}(h:s[v]?=some (.vec 25 32 (cz L)))(f n:Nat)(b:n=L.length):bu s (f+2) (.vec v n 32)=some (.sl 32 (L.map aq)):=by
 subst b;show(match s[v]? with|some (.vec _ sz2 ds)=>if sz2=32∧0<32∧ds.length=L.length*32 then(cU (bu s (f+1)) ds).map fun a=>D.sl 32 (chunk 32 L.length a)else none|_=>none)=_;rw[h];show(if _ then _ else _)=_;rw[if_pos ⟨rfl,by decide,k8 L⟩,r9,tE,eY,uU]
theorem Ht{d:Dg}: ∀{m:MD} {i:Nat},d∈m.map (·.1)→ ∃j v,eE d m i=some (j,v)∧(d,v)∈m
 |e::m,i,h=>by
  rw[eE];by_cases a:d=e.1
  ·exact⟨i,e.2,by rw[if_pos a],by rw[a];simp⟩
  ·rw[if_neg a];obtain⟨j,v,b,c⟩:=Ht (m:=m) (i:=i+1) (by rcases bY.1 h with h|h;exact absurd h a;exact h);exact⟨j,v,b,by simp[c]⟩
set_option maxHeartbeats 2000000 in
theorem UI(G:MD)(N:Dg→List Dg)(X:G.length≤100000)(hN: ∀e∈G,e.2.toD=some (.sl 32 ((N e.1).map aq))∧(N e.1).length≤1000000000000∧ ∀x∈N e.1,x∈G.map (·.1))(o:Nat)(a:List Dg)(hl:a.length≤1000000)(s:List aa)(A:s[o]?=some (.map true (cM G))):
  aT Tryz.prog 84 [.mp o,.d (.sl 32 (a.map aq))] s fun d s'=>((∀x∈a,x∈G.map (·.1))∧ ∃(O:List Dg) (v:AV),O.Nodup∧(∀x,x∈O↔pE N a x)∧d= .tup [v,.d (dB true)]∧ ∀f,bu s' (f+2) v=some (.sl 32 ((O.mergeSort eo).map aq)))∨((¬ ∀x∈a,x∈G.map (·.1))∧d= .tup [.nil 32,.d (dB false)]):=by
 have q: ∀x,qb G x=true↔x∈G.map (·.1):=fun x=>by
  unfold qb;have:= @vk x G 0;cases h:eE x G 0 with
  |none=>simp[this.1 h]
  |some r=>
   simp only[oo,true_iff];exact iK fun R=>by rw[this.2 R]at h;cases h
 have a1:=(aR.1 A).1;have y:RS G s.length o (s.length+2) (s.length+1) (s.length+3) [] (s++[.cells [.mp o],.map true [],.cells [.mp (s.length+1)],.cells [.nil 32]]):=
  ⟨by simp,bt A _,by simp,by simp[fb,cM],by omega,.inl ⟨rfl,by simp⟩,by simp,by simp⟩
 have u:=JP G X s.length o (s.length+2) (s.length+1) (s.length+3) a a8 [] _ y;refine aT.of (F:=zL) Sz (by simp[zL]) ?_;simp only[zL];by_cases c: ∀x∈a,x∈G.map (·.1)
 ·rw[CG _ a [] fun d j=>(q d).2 (c d j)]at u
  repeat' first|refine ak (fun _=> ?_) fun _=> ?_|(refine aj.fn (u.mono ?_);rintro _ n ⟨rfl,g⟩)|refine bb @wj trivial ?_|exact ba @wj trivial|fail
  clear u y;refine aX.tr (fun(b:Nat×List Dg×List aa)=>[(9,iN b.1)]) (fun b=>b.2.2) (fun m b=>m+b.1=G.length∧RS G s.length o (s.length+2) (s.length+1) (s.length+3) b.2.1 b.2.2∧ot N a b.1 b.2.1) G.length (0,kM a [],n) aA aA rfl ⟨rfl,g,ot.start N a⟩ ?_;clear g;rintro m ⟨i,O,n⟩ ⟨hm,g,w⟩;dsimp only at hm g w⊢;have P:=w.le
  have Y:O.length≤G.length:=eS (tS g.nd g.sub) (by rw[aL];exact bh _);have ha:=g.ha;have hg:=g.hg;rcases g.hc with⟨p,l⟩|⟨p,v,l,t⟩
  ·subst p;have L:i=0:=by simpa using P
   subst L;have j:decide ((0:Int)<0)=false:=by decide
   have D:=Yq 117 n
   repeat' first|refine ak (fun _=> ?_) fun _=> ?_|refine bb (ga @l (ga @j @wj)) @D ?_|exact ba (ga @l (ga @j @wj)) @D|fail
   exact .inl ⟨c,[],.nil 32,List.nodup_nil,w.done,rfl,fun f=>by simp[bu,AV.toD,AV.toL]⟩
  ·by_cases E:i<O.length
   ·have hy:O[i]?=some O[i]:=bV E;have j:decide ((i:Int)<(O.length:Int))=true:=by simp;omega
    have Z:IntKind.i64.wrap ((i:Int)+1)=((i+1:Nat):Int):=ck a8 a8;have T:=g.sub O[i] (List.getElem_mem E);obtain⟨gi,W,hf,K⟩:=Ht T;obtain⟨n1,n2,n3⟩:=hN _ K;have z:dC dD (cj O[i]) (cM G) 0=some (some (gi,W)):=by rw[mw,hf]
    have B:=iH Tryz.prog W;have U:=uS hy;have k:=k8 O;have q0:i*32+32≤O.length*32:=by omega
    have V:=aT.toD1 n1 (JP G X s.length o (s.length+2) (s.length+1) (s.length+3) (N O[i]) n2 O n g);rw[CG _ (N O[i]) O fun d j=>(q d).2 (n3 d j)]at V
    repeat' first|refine ak (fun _=> ?_) fun _=> ?_|(refine aj.fn (V.mono ?_);rintro _ s2 ⟨rfl,H⟩)|refine bb (ga @l (ga @j (ga @Z (ga @t (ga @E (ga @k (ga @ha (ga @hg (ga @z (ga @B (ga @U (ga @q0 @wj)))))))))))) trivial ?_|exact ba (ga @l (ga @j (ga @Z (ga @t (ga @E (ga @k (ga @ha (ga @hg (ga @z (ga @B (ga @U (ga @q0 @wj)))))))))))) trivial|fail
    exact⟨m-1,(i+1,kM (N O[i]) O,s2),by omega,rfl,rfl,by dsimp only;omega,H,w.next hy⟩
   ·have M:i=O.length:=by omega
    subst M;have j:decide ((O.length:Int)<(O.length:Int))=false:=by simp
    have D:=Ll t p a8;have I:(n.set v (.vec 25 32 (cz (O.mergeSort eo))))[s.length+3]?=some (.cells [.vec v O.length 32]):=getSet l (fun e=>by subst e;rw[l]at t;cases t);have C:(n.set v (.vec 25 32 (cz (O.mergeSort eo))))[v]?=some (.vec 25 32 (cz (O.mergeSort eo))):=ed t
    have k:(cz (O.mergeSort eo)).length=O.length*32:=by rw[k8,kJ]
    have Q:cU (bu (n.set v (.vec 25 32 (cz (O.mergeSort eo)))) 3) (cz (O.mergeSort eo))=some (((O.mergeSort eo).map aq).flatten):=by rw[r9];exact tE _ 2 _
    have J:chunk 32 O.length (((O.mergeSort eo).map aq).flatten)=(O.mergeSort eo).map aq:=by
     have:=uU (O.mergeSort eo);rw[kJ]at this;exact this
    refine pY (ga @l (ga @j (ga @I (ga @C (ga @k (ga @Q (ga @J @wj))))))) @D ?_;exact .inl ⟨c,O,_,g.nd,w.done,rfl,fun f=>Oj C f _ (kJ _).symm⟩
 ·obtain⟨d,j,S⟩: ∃d,d∈a∧ ¬d∈G.map (·.1):=iK fun h=>c fun x hx=>iK fun R=>h ⟨x,hx,R⟩;rw[G1 _ a [] d j fun h=>S ((q d).1 h)]at u
  repeat' first|refine ak (fun _=> ?_) fun _=> ?_|(refine aj.fn (u.mono ?_);rintro _ n ⟨rfl,g⟩)|refine bb @wj trivial ?_|exact ba @wj trivial|fail
  all_goals first|exact .inr ⟨c,rfl⟩|exact .inr c|trace_state
theorem KK{P:Program}{N:Nat}{cs:List CO}{tail:CC}{Q:Exit→Fr→List aa→Prop}{fr:Fr}{s:List aa}(h:bR P none (.seq (.ops false [] cs) tail) Q fr s){b:List Nat}{ops:Array Oper}{l:List Oper}(f:jz P b ops l=some cs){c:Code}(hc:dx P N c tail):
  ∃d a s2,fY (dx P) P ops l fr s d a s2∧dG (dx P) P N none c a s2 Q:=by
 obtain⟨d,a,s2,e,ha⟩:=pe (show bH P cs (pB false [] (fp (bR P none tail Q) Q)) [] fr s from h);exact⟨d,a,s2,ha b ops l f,dG.ofAC (bL e.2) hc⟩
def Ca:List CO:=[o0 14 (.ext (.t 13) 0),o0 15 (.ext (.t 13) 1),o0 4 (.box (.c (.agg cN))),oN (.st 32 (.t 4) (.t 14)),om 5 15]
def YH:CC:=
 (.seq
 (fo [om 16 3,o0 17 (.ld (some 32) (.t 4)),o0 19 (.bsf 32 0 [] []),o0 20 (.men true dD (.nil 32) (.t 16) (.t 17)),o0 18 (.ext (.t 20) 0),o0 21 (.app false 25 32 32 (.t 18) (.t 19)),o0 22 (.ext (.t 20) 1),oN (.mst (.t 16) (.t 22) (.t 21))])
 (.seq
 (fo [om 23 5,o0 24 (.len 0 (.t 23)),o0 25 (.mov (xi 0))])
 (.block 2
 (.loop
 (.trim [25,4,3,23,24,10]
 (.seq
 (fo [o0 26 (.bin .lss (.t 25) (.t 24))])
 (.seq
 (.cond (.t 26)
 .skip
 (.exit 2))
 (.seq
 (.block 3
 (.seq
 (fo [o0 27 (.iad 32 (.t 23) (.t 25)),o0 28 (.ld (some 32) (.t 27)),o0 7 (.box (.c (.agg cN))),oN (.st 32 (.t 7) (.t 28))])
 (fo [om 29 3,o0 30 (.ld (some 32) (.t 7)),o0 32 (.ld (some 32) (.t 4)),o0 33 (.bsf 32 1 cN [(0,32,(.t 32))]),o0 34 (.men true dD (.nil 32) (.t 29) (.t 30)),o0 31 (.ext (.t 34) 0),o0 35 (.app false 25 32 32 (.t 31) (.t 33)),o0 36 (.ext (.t 34) 1),oN (.mst (.t 29) (.t 36) (.t 35))])))
 (fo [o0 37 (.bin .add (.t 25) (xi 1)),om 25 37])))))))))
def Fs:CC:=(fo [o0 2 (.mov (.c (.d (.sc (.map none)))))])
def Ft:CC:=(fo [o0 8 (.mkm true),om 3 8])
def Fu:CC:=(.seq (fo [om 38 3,om 2 38]) .ret)
theorem YI: ∃(cX h i rest:Code) (b c a:Array Oper) (e f o1 o2 o3:Oper) (g:List Oper),
  Tryz.f83.body=some (.seq cX (.seq h (.seq (.seq (.region 2 b false) (.block 0 (.loop (.seq (.region 3 c false) (.seq (.cond (.tmp 12) .skip (.exit 0)) (.block 1 (.seq (.region 4 a false) rest))))))) i)))∧
  (comp Tryz.prog [100019,100033] 39 cX=some Fs.erase∧comp Tryz.prog [100019,100033] 39 h=some Ft.erase∧comp Tryz.prog [100019,100033] 39 i=some Fu.erase∧comp Tryz.prog [100019,100033] 39 rest=some YH.erase∧jz Tryz.prog [100019,100033] a g=some Ca)∧
  (b.toList=[e,f]∧e.guard=none∧e.op= .move (.tmp 0)∧e.dst=some 9∧f.guard=none∧f.op= .range 116 (.tmp 9)∧f.dst=some 10)∧
  (c.toList=[o1,o2]∧o1.guard=none∧o1.op= .next (.tmp 10) false∧o1.dst=some 11∧o2.guard=none∧o2.op= .extract (.tmp 11) 0∧o2.dst=some 12)∧
  (a.toList=o3::g∧o3.guard=none∧o3.op= .entry (.tmp 10)∧o3.dst=some 13)∧(g.all fun o=>(o.dst.all fun d=>decide (d<39))&&eh o)=true:=
 ⟨_,_,_,_,_,_,_,_,_,_,_,_,_,rfl,⟨by kernel_rfl,by kernel_rfl,by kernel_rfl,by kernel_rfl,by kernel_rfl⟩,⟨rfl,rfl,rfl,rfl,rfl,rfl,rfl⟩,⟨rfl,rfl,rfl,rfl,rfl,rfl,rfl⟩,⟨rfl,rfl,rfl,rfl⟩,by kernel_rfl⟩
end Go.Proofs.Q
