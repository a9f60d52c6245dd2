/- Part of a proof. -/
import Derived.Test.YtfoljakejdgfcaaGreatDoorSI
import Derived.Test.YtfoljakejdgfcaaGreatDoorSJ
set_option linter.unusedVariables false
set_option linter.unusedSimpArgs false
namespace Go.Proofs.Q
open Go Go.Bb Go.RowKit Go.Proofs.Lg
open Go.Ab (D RD)
theorem Cj{n:Int}(b: -9223372036854775808≤n)(c:n<9223372036854775808):IntKind.i64.wrap n=n:=by
 simp only[IntKind.wrap,IntKind.bits,IntKind.signed];have a:n % 2^64=n∨n % 2^64=n+2^64:=by omega
 rcases a with a|a
 ·simp only[a];simp;omega
 ·simp only[a];simp;omega
theorem Nl(l:List Dg)(s:List aa):aT Tryz.prog 136 [.d (.sl 32 (l.map aq))] s fun d a=>d= .clo 189 [] [.d (.ref [.sl 32 (l.map aq)])]∧a=s:=by
 refine aT.of (F:=yq) Rl (by simp[yq]) ?_;simp only[yq];exact bx (ga @uM @wj) trivial
 all_goals first|rfl|exact⟨rfl,rfl⟩
theorem Nj(l:List aJ)(s:List aa):aT Tryz.prog 138 [.d (.sl 172 (l.map aO))] s fun d a=>d= .clo 192 [] [.d (.ref [.sl 172 (l.map aO)])]∧a=s:=by
 refine aT.of (F:=yo) Rj (by simp[yo]) ?_;simp only[yo];exact bx (ga @uM @wj) trivial
 all_goals first|rfl|exact⟨rfl,rfl⟩
theorem Nk(l:List Dg)(w:l.length≤100000000)(i:Nat)(S:Nat→List aa→Prop)
  (hround: ∀(k:Nat) (x:Dg) (n:Int) (s:List aa) (K:AV→List aa→Prop),l.reverse[k]?=some x→S k s→(∀c,S (k+1) c→K (.d (dB true)) c)→gh Tryz.prog i [.d (dI n),.d (.agg (aq x))] s K)
  (s:List aa) (m:S 0 s):aT Tryz.prog 189 [.yld i,.d (.ref [.sl 32 (l.map aq)])] s fun d c=>d=vT∧S l.length c:=by
 have v:IntKind.i64.wrap ((l.length:Int)-1)=(l.length:Int)-1:=Cj a8 a8;refine aT.of (F:=yr) Rm (by simp[yr]) ?_;simp only[yr];refine aw (ga @v @wj) trivial ?_
 refine aX.overI l.reverse (fun k (b:List aa)=>[(3,.d (.sc (.int .i64 ((l.length:Int)-1-(k:Int)))))]) (fun _ b=>b) (fun _ _=>()) () (fun k b=>S k b) s (by simp;omega) aA (by simp only[wy,qg,aC,reduceCtorEq,reduceIte,Nat.reduceAdd,Nat.reduceMul,Nat.reduceEqDiff,Nat.reduceLT,Nat.reduceLeDiff,Nat.reduceSub,ax,aB,ay,au];simp) rfl rfl m (fun k s x hg r p u o e=> ?_) (fun s p o e=> ?_)
 ·rw[pr]at r;have a:decide ((l.length:Int)-1-(k:Int)≥0)=true:=by simp;omega
  have f:(0≤(l.length:Int)-1-(k:Int))=True:=by simp;omega
  have g:((l.length:Int)-1-(k:Int)).toNat=l.length-1-k:=by omega
  have h:IntKind.i64.wrap ((l.length:Int)-1-(k:Int)-1)=(l.length:Int)-1-((k+1:Nat):Int):=by rw[Cj a8 a8];omega
  have j:l[l.length-1-k]?=some x:=by rw[List.getElem?_reverse a8]at hg;exact hg
  have t:=fun n K=>hround k x n s K hg e;clear hround o p u m
  repeat' first|refine ak (fun _=> ?_) fun _=> ?_|(refine aj.yld (t _ _ (fun c q=> ?_)))|refine bb (ga @a (ga @f (ga @g (ga @h (ga @j @wj))))) trivial ?_|exact ba (ga @a (ga @f (ga @g (ga @h (ga @j @wj))))) trivial|fail
  exact q
 ·rw[pr]at e;have a:decide ((l.length:Int)-1-(l.length:Int)≥0)=false:=by simp;omega
  repeat' first|simp only[pr]|refine ak (fun _=> ?_) fun _=> ?_|refine bb (ga @a @wj) trivial ?_|exact ba (ga @a @wj) trivial|fail
  all_goals first|exact e|trace_state
theorem Ni(l:List aJ)(w:l.length≤100000000)(i:Nat)(S:Nat→List aa→Prop)
  (hround: ∀(k:Nat) (x:aJ) (n:Int) (s:List aa) (K:AV→List aa→Prop),l.reverse[k]?=some x→S k s→(∀c,S (k+1) c→K (.d (dB true)) c)→gh Tryz.prog i [.d (dI n),.d (.agg (aO x))] s K)
  (s:List aa) (m:S 0 s):aT Tryz.prog 192 [.yld i,.d (.ref [.sl 172 (l.map aO)])] s fun d c=>d=vT∧S l.length c:=by
 have v:IntKind.i64.wrap ((l.length:Int)-1)=(l.length:Int)-1:=Cj a8 a8;refine aT.of (F:=yp) Rk (by simp[yp]) ?_;simp only[yp];refine aw (ga @v @wj) trivial ?_
 refine aX.overI l.reverse (fun k (b:List aa)=>[(3,.d (.sc (.int .i64 ((l.length:Int)-1-(k:Int)))))]) (fun _ b=>b) (fun _ _=>()) () (fun k b=>S k b) s (by simp;omega) aA (by simp only[wy,qg,aC,reduceCtorEq,reduceIte,Nat.reduceAdd,Nat.reduceMul,Nat.reduceEqDiff,Nat.reduceLT,Nat.reduceLeDiff,Nat.reduceSub,ax,aB,ay,au];simp) rfl rfl m (fun k s x hg r p u o e=> ?_) (fun s p o e=> ?_)
 ·rw[pr]at r;have a:decide ((l.length:Int)-1-(k:Int)≥0)=true:=by simp;omega
  have f:(0≤(l.length:Int)-1-(k:Int))=True:=by simp;omega
  have g:((l.length:Int)-1-(k:Int)).toNat=l.length-1-k:=by omega
  have h:IntKind.i64.wrap ((l.length:Int)-1-(k:Int)-1)=(l.length:Int)-1-((k+1:Nat):Int):=by rw[Cj a8 a8];omega
  have j:l[l.length-1-k]?=some x:=by rw[List.getElem?_reverse a8]at hg;exact hg
  have t:=fun n K=>hround k x n s K hg e;clear hround o p u m
  repeat' first|refine ak (fun _=> ?_) fun _=> ?_|(refine aj.yld (t _ _ (fun c q=> ?_)))|refine bb (ga @a (ga @f (ga @g (ga @h (ga @j @wj))))) trivial ?_|exact ba (ga @a (ga @f (ga @g (ga @h (ga @j @wj))))) trivial|fail
  exact q
 ·rw[pr]at e;have a:decide ((l.length:Int)-1-(l.length:Int)≥0)=false:=by simp;omega
  repeat' first|simp only[pr]|refine ak (fun _=> ?_) fun _=> ?_|refine bb (ga @a @wj) trivial ?_|exact ba (ga @a @wj) trivial|fail
  all_goals first|exact e|trace_state
def jD:CC:=fo [o0 4 (.box (.c (.agg cN))),oN (.st 32 (.t 4) (.t 15))]
def jE:CC:=fo [o0 10 (.box (.c (.agg gG))),oN (.st 172 (.t 10) (.t 30))]
def jF:CC:= .block 3 (.seq (fo [o0 31 (.ld none (.t 2)),o0 32 (.ld (some 172) (.t 10)),o0 33 (.call (.val (.t 31)) [(.t 32)]),o0 34 (.not (.t 33))]) (.cond (.t 34) .ret .skip))
def iT:CC:= .block 1 (.seq
 (fo [o0 17 (.ld none (.t 1)),o0 18 (.ld (some 32) (.t 4)),o0 19 (.call (.fn 37) [(.t 17),(.t 18)]),om 16 19,o0 20 (.ext (.t 16) 0),o0 21 (.ext (.t 16) 1),o0 5 (.box (.c (.agg iY))),oN (.st 5 (.t 5) (.t 20)),om 6 21])
 (.seq
 (fo [o0 23 (.ld (some 5) (.t 5)),o0 24 (.call (.fn 94) [(.t 23)]),om 22 24,o0 25 (.ext (.t 22) 0),o0 26 (.ext (.t 22) 1),om 7 25,om 8 26])
 (.seq
 (fo [om 27 7,o0 28 (.call (.fn 138) [(.t 27)])])
 (.block 2
 (.trim [28,2]
 (.rng 35 (.t 28) [29,30] jE jF))))))
def gJ(base:Nat)(s a:List aa):Prop:= ∀j o,base≤j→s[j]?=some o→((∃cs,o= .cells cs)∨ ∃L,o= .loop L)→a[j]?=some o
structure Cons(i base:Nat)(A:List aJ)(S:Nat→List aa→Prop):Prop where
 app: ∀k s o,S k s→S k (s++[o])
 set: ∀k s j o o',S k s→base≤j→s[j]?=some o→((∃cs,o= .cells cs)∨ ∃L,o= .loop L)→S k (s.set j o')
 len: ∀k s,S k s→base≤s.length
 round: ∀(k:Nat) (x:aJ) (s:List aa) (K:AV→List aa→Prop),A[k]?=some x→S k s→(∀s',S (k+1) s'→gJ base s s'→K (.d (dB true)) s')→gh Tryz.prog i [.d (.agg (aO x))] s K
set_option maxHeartbeats 1000000 in
theorem Qd{i base f a b k:Nat}{A:List aJ}{S:Nat→List aa→Prop}(j:Cons i base A S){fr:Fr}{l:aa}(C:base≤f)(D:f<a)(y:a<b)(t:Bb.look fr 2=some (.ptr f 0))(x:aJ)(n:Int)(B:A[k]?=some x){s:List aa}(w:S k s)
  (ha:s[a]?=some l) (m: ∃L,l= .loop L) (hb:s[b]?=some (.loop ⟨.ready,none,fr,[29,30],35,jE,jF⟩)) (o:s[f]?=some (.cells [.yld i])) {K:AV→List aa→Prop}
  (v: ∀g,S (k+1) g→g[a]?=some l→g[b]?=some (.loop ⟨.ready,none,fr,[29,30],35,jE,jF⟩)→g[f]?=some (.cells [.yld i])→K (.d (dB true)) g):gh Tryz.prog b [.d (dI n),.d (.agg (aO x))] s K:=by
 have z:=(aR.1 hb).1;unfold gh;rw[hb];refine⟨rfl,rfl,?_⟩;simp only[jE,jF,putL,mc,uK]
 repeat' first|refine ak (fun _=> ?_) fun _=> ?_|refine aD ?_|simp only[cG,bJ,jI,ef,aL,wj,wy,qg,aC,reduceCtorEq,reduceIte,Nat.reduceAdd,Nat.reduceMul,Nat.reduceEqDiff,Nat.reduceLT,Nat.reduceLeDiff,Nat.reduceSub,ax,aB,ay,au]
 unfold jn;rw[bt hb];refine⟨rfl,?_⟩;have h:=j.set _ _ b _ (.loop ⟨.busy,none,fr,[29,30],35,jE,jF⟩) (j.app _ _ (.cells ((aO x).map .d)) w) a8 (bt hb _) (.inr ⟨_,rfl⟩);have t0:((s++[aa.cells (List.map AV.d (aO x))]).set b (.loop ⟨.busy,none,fr,[29,30],35,jE,jF⟩))[f]?=some (.cells [.yld i]):=getSet (bt o _) a8
 have p:((s++[aa.cells (List.map AV.d (aO x))]).set b (.loop ⟨.busy,none,fr,[29,30],35,jE,jF⟩))[s.length]?=some (.cells ((aO x).map .d)):=getSet (by simp) a8;have q:((s++[aa.cells (List.map AV.d (aO x))]).set b (.loop ⟨.busy,none,fr,[29,30],35,jE,jF⟩))[a]?=some l:=getSet (bt ha _) a8
 have r:((s++[aa.cells (List.map AV.d (aO x))]).set b (.loop ⟨.busy,none,fr,[29,30],35,jE,jF⟩))[b]?=some (.loop ⟨.busy,none,fr,[29,30],35,jE,jF⟩):=ed (bt hb _);dsimp only;generalize(s++[aa.cells (List.map AV.d (aO x))]).set b (.loop ⟨.busy,none,fr,[29,30],35,jE,jF⟩)=T at h t0 p q r⊢
 repeat' first|refine ak (fun _=> ?_) fun _=> ?_|refine aD ?_|(refine aj.yld (j.round k x _ _ B h (fun g u c=> ?_)))|simp only[cG,t,t0,p,bJ,aL,wj,wy,qg,aC,reduceCtorEq,reduceIte,Nat.reduceAdd,Nat.reduceMul,Nat.reduceEqDiff,Nat.reduceLT,Nat.reduceLeDiff,Nat.reduceSub,ax,aB,ay,au]
 have e:=c b _ a8 r (.inr ⟨_,rfl⟩);unfold jW;rw[e];refine v _ (j.set _ _ b _ _ u a8 e (.inr ⟨_,rfl⟩)) ?_ (ed e) ?_
 ·exact getSet (c a _ a8 q (.inr m)) a8
 ·exact getSet (c f _ C t0 (.inl ⟨_,rfl⟩)) a8
def kx(l:aP)(d:Dg):List aJ:=(ft ((bM l d).getD .zero)).1.reverse
def kW(l:aP):List aJ:=(jG l l.length []).reverse.flatMap (kx l)
theorem G2(p:b9):(ft p).1.length≤1604400:=by
 unfold ft;split
 ·exact fM _
 ·rw[aL];exact vf p
set_option maxHeartbeats 2000000 in
theorem Qe{i base b a m:Nat}{l:aP}(hl:l.length≤1000000){A:List aJ}{S:Nat→List aa→Prop}(k:Cons i base A S){fr:Fr}(hy:base≤b)(O:b<a)(X:Bb.look fr 2=some (.ptr b 0))(W:Bb.look fr 1=some (.d (.ref [.sl 37 (l.map b8)])))(d:Dg)(n:Int)
  (y:(bM l d).isSome=true) (M:cV ((bM l d).getD .zero)∧e8 ((bM l d).getD .zero)) (I: ∀j x,(kx l d)[j]?=some x→A[m+j]?=some x) {s:List aa} (hS:S m s)
  (ha:s[a]?=some (.loop ⟨.ready,none,fr,[14,15],35,jD,iT⟩)) (N:s[b]?=some (.cells [.yld i])) {K:AV→List aa→Prop}
  (t: ∀c,S (m+(kx l d).length) c→c[a]?=some (.loop ⟨.ready,none,fr,[14,15],35,jD,iT⟩)→c[b]?=some (.cells [.yld i])→K (.d (dB true)) c):gh Tryz.prog a [.d (dI n),.d (.agg (aq d))] s K:=by
 have a0:=(aR.1 ha).1;have C:=Bx l hl d;obtain⟨p,f⟩: ∃p,p=(bM l d).getD .zero:=⟨_,rfl⟩
 rw[←f,y]at C;rw[←f]at M;have D:=JG p M.1 M.2;have w:=G2 p;have h:kx l d=(ft p).1.reverse:=by rw[kx,f]
 rw[h]at I t;obtain⟨at_,r⟩: ∃q,q=(ft p).1:=⟨_,rfl⟩
 obtain⟨e,U⟩: ∃e,e=(ft p).2:=⟨_,rfl⟩
 rw[←r,←U]at D;rw[←r]at I t w;rw[pr]at t;clear r U f y h;have R:=fun s=>Nj at_ s;unfold gh;rw[ha];refine⟨rfl,rfl,?_⟩;simp only[jD,iT,putL,mc,uK]
 repeat' first|refine ak (fun _=> ?_) fun _=> ?_|refine aD ?_|simp only[cG,jm,bc,aL,wj,wy,qg,aC,reduceCtorEq,reduceIte,Nat.reduceAdd,Nat.reduceMul,Nat.reduceEqDiff,Nat.reduceLT,Nat.reduceLeDiff,Nat.reduceSub,ax,aB,ay,au]
 unfold jn;rw[bt ha];refine⟨rfl,?_⟩;have o:=k.set _ _ a _ (.loop ⟨.busy,none,fr,[14,15],35,jD,iT⟩) (k.app _ _ (.cells ((aq d).map .d)) hS) a8 (bt ha _) (.inr ⟨_,rfl⟩);have t0:((s++[aa.cells (List.map AV.d (aq d))]).set a (.loop ⟨.busy,none,fr,[14,15],35,jD,iT⟩))[b]?=some (.cells [.yld i]):=getSet (bt N _) a8
 have P:((s++[aa.cells (List.map AV.d (aq d))]).set a (.loop ⟨.busy,none,fr,[14,15],35,jD,iT⟩))[s.length]?=some (.cells ((aq d).map .d)):=getSet (by simp) a8;have Q:((s++[aa.cells (List.map AV.d (aq d))]).set a (.loop ⟨.busy,none,fr,[14,15],35,jD,iT⟩))[a]?=some (.loop ⟨.busy,none,fr,[14,15],35,jD,iT⟩):=ed (bt ha _)
 have v:a<((s++[aa.cells (List.map AV.d (aq d))]).set a (.loop ⟨.busy,none,fr,[14,15],35,jD,iT⟩)).length:=by simp;omega
 dsimp only;change bR _ _ iT _ _ ((s++[aa.cells (List.map AV.d (aq d))]).set a (.loop ⟨.busy,none,fr,[14,15],35,jD,iT⟩));generalize(s++[aa.cells (List.map AV.d (aq d))]).set a (.loop ⟨.busy,none,fr,[14,15],35,jD,iT⟩)=T at o t0 P Q v⊢;have g:=bt Q [.cells ((bk p).map .d)];have z:=bt t0 [.cells ((bk p).map .d)];have u:=k.app _ _ (.cells ((bk p).map .d)) o
 simp only[iT]
 repeat' first|refine ak (fun _=> ?_) fun _=> ?_|refine aD ?_|refine aj.data (C) rfl ?_|refine aj.data (D) rfl ?_|(refine aj.fn ((R _).mono ?_);rintro _ c ⟨rfl,rfl⟩)|simp only[cG,X,W,t0,P,bc,c9,ew,aL,wj,wy,qg,aC,reduceCtorEq,reduceIte,Nat.reduceAdd,Nat.reduceMul,Nat.reduceEqDiff,Nat.reduceLT,Nat.reduceLeDiff,Nat.reduceSub,ax,aB,ay,au]
 generalize J:T++[aa.cells (List.map AV.d (bk p))]=T2 at g z u⊢;have L:a<T2.length:=(aR.1 g).1;clear J o t0 P Q v C D R;rw[Ch]
 refine⟨⟨_,g⟩,_,_,_,rfl,jP.fn (aT.mono (Ni at_ a8 T2.length (fun j c=>S (m+j) c∧c[a]?=some (.loop ⟨.busy,none,fr,[14,15],35,jD,iT⟩)∧c[T2.length]?=some (.loop ⟨.ready,none,[(28,.clo 192 [] [.d (.ref [.sl 172 (at_.map aO)])]),(2,.ptr b 0)],[29,30],35,jE,jF⟩)∧c[b]?=some (.cells [.yld i])) ?_ _ ?_) ?_)⟩
 ·rintro j x n c K hx ⟨E,F,B,G⟩ t;exact Qd k hy O L rfl x n (I j x hx) E F ⟨_,rfl⟩ B G fun V k1 k2 k3 k4=>t V ⟨k1,k2,k3,k4⟩
 ·exact⟨k.app _ _ _ u,bt g _,by simp,bt z _⟩
 ·rintro _ V ⟨_,E,F,B,G⟩;unfold kH;rw[B];refine⟨by simp,?_⟩;have Y:=k.set _ _ _ _ (.loop ⟨.exhausted,none,[(28,.clo 192 [] [.d (.ref [.sl 172 (at_.map aO)])]),(2,.ptr b 0)],[29,30],35,jE,jF⟩) E a8 B (.inr ⟨_,rfl⟩)
  have H:=getSet (o':= .loop ⟨.exhausted,none,[(28,.clo 192 [] [.d (.ref [.sl 172 (at_.map aO)])]),(2,.ptr b 0)],[29,30],35,jE,jF⟩) F (show T2.length≠a by omega);have Z:=getSet (o':= .loop ⟨.exhausted,none,[(28,.clo 192 [] [.d (.ref [.sl 172 (at_.map aO)])]),(2,.ptr b 0)],[29,30],35,jE,jF⟩) G (show T2.length≠b by omega)
  show la 2 (la 1 fun e x s=>jW a K e s) .normal _ _;refine aw @wj trivial ?_;unfold jW;rw[H];refine t _ (k.set _ _ a _ _ Y a8 H (.inr ⟨_,rfl⟩)) (ed H) (getSet Z a8)
theorem Hy{α β:Type}(f:α→List β): ∀(l:List α) (k:Nat) (d:α) (j:Nat) (x:β),l[k]?=some d→(f d)[j]?=some x→(l.flatMap f)[((l.take k).flatMap f).length+j]?=some x
 |[],k,d,j,x,h,_=>by simp at h
 |e::l,0,d,j,x,h,hj=>by
  simp at h;subst h;rw[nU,List.take_zero,List.flatMap_nil,aY,au,eQ (aR.1 hj).1];exact hj
 |e::l,k+1,d,j,x,h,hj=>by
  rw[jT,nU,nU,aN,jv,gZ a8,mR];exact Hy f l k d j x (by simpa using h) hj
theorem P1{α β:Type}(f:α→List β){l:List α}{k:Nat}{d:α}(h:l[k]?=some d):((l.take (k+1)).flatMap f).length=((l.take k).flatMap f).length+(f d).length:=by
 obtain⟨a,rfl⟩:=aR.1 h;rw[qS a,List.flatMap_append,aN];simp
theorem E7(l:aP): ∀(n:Nat) (O:List Dg),(∀d∈O,d∈bA l)→ ∀d∈jG l n O,d∈bA l
 |0,O,h=>h
 |n+1,O,h=>by
  rw[jG];split
  ·exact h
  ·rename_i h0;refine E7 l n _ fun d a=> ?_;rcases fL.1 a with a|a
   ·exact h d a
   ·rcases vw (nz O) l 0 with⟨b,_⟩|⟨j,y,b,h2,_,_⟩
    ·rw[b]at h0;exact absurd (by decide) h0
    ·rw[b,au,gW,h2]at a;simp at a;subst a;exact j3 (bT h2)
theorem E6(l:aP): ∀(n:Nat) (O:List Dg),(jG l n O).length≤O.length+n
 |0,O=>bh _
 |n+1,O=>by
  rw[jG];split
  ·omega
  ·have:=E6 l n (O++[((l[(dU (nz O) l 0).toNat]?).map (·.id)).getD .zero]);simp at this;omega
theorem Dn{l:aP}{d:Dg}(h:d∈bA l): ∃x∈l,bM l d=some x.pat:=by
 induction l with
 |nil=>simp[bA]at h
 |cons y l c=>
  rw[bM];by_cases e:y.id=d
  ·exact⟨y,by simp,by rw[if_pos e]⟩
  ·have a:d∈bA l:=by
    unfold bA at h⊢;rw[bO,bY]at h;rcases h with h|h
    ·exact absurd h.symm e
    ·exact h
   obtain⟨x,b,hg⟩:=c a;exact⟨x,by simp[b],by rw[if_neg e];exact hg⟩
set_option maxHeartbeats 2000000 in
theorem PS(l:aP)(M:l.length≤100000)(H: ∀x∈l,cV x.pat∧e8 x.pat)(A: ∀x∈l,(bB x.pat).length≤1000000)(z:(bA l).Nodup)(i base:Nat)(S:Nat→List aa→Prop)(h:Cons i base (kW l) S)(s:List aa)(h0:S 0 s):
  aT Tryz.prog 135 [.yld i,.d (.ref [.sl 37 (l.map b8)])] s fun d c=>d=vT∧S (kW l).length c:=by
 have q:=UG l M H A z;have b:=E7 l l.length [] (fun d y=>by cases y);have a:=E6 l l.length [];have e:kW l=(jG l l.length []).reverse.flatMap (kx l):=rfl;obtain⟨o,N⟩: ∃o,o=jG l l.length []:=⟨_,rfl⟩
 rw[←N]at q b a e;have u:=fun s=>Nl o s;have p:=h.len _ _ h0;have m:=h.app _ _ (.cells [.yld i]) h0;refine aT.of (F:=yU) RO (by simp[yU]) ?_;simp only[yU]
 repeat' first|refine ak (fun _=> ?_) fun _=> ?_|refine bb @wj (ga @q @u) ?_|exact ba @wj (ga @q @u)|fail
 change bR Tryz.prog none (.rng 35 (.t 13) [14,15] jD iT) _ _ _;obtain⟨g,f⟩: ∃g,g=s.length:=⟨_,rfl⟩
 have E:(s++[aa.cells [.yld i]])[g]?=some (.cells [.yld i]):=by rw[f];simp
 rw[←f]at p⊢;generalize s++[aa.cells [.yld i]]=T at m E⊢;have D:=(aR.1 E).1;clear h0 f q u;rw[Ch]
 refine⟨trivial,_,_,_,rfl,jP.fn (aT.mono (Nk o (by simp at a;omega) T.length (fun k c=>S ((o.reverse.take k).flatMap (kx l)).length c∧c[T.length]?=some (.loop ⟨.ready,none,[(13,.clo 189 [] [.d (.ref [.sl 32 (o.map aq)])]),(1,.d (.ref [.sl 37 (l.map b8)])),(2,.ptr g 0)],[14,15],35,jD,iT⟩)∧c[g]?=some (.cells [.yld i])) ?_ _ ?_) ?_)⟩
 ·rintro k d n c K B ⟨v,r,G⟩ hK;have y:d∈bA l:=b d (by have:=bT B;simpa using this);obtain⟨x,C,hg⟩:=Dn y;refine Qe a8 h p D rfl rfl d n (by rw[hg];rfl) (by rw[hg];exact H x C) (fun j x L=>by rw[e];exact Hy (kx l) _ k d j x B L) v r G fun I O P Q=>hK I ⟨?_,P,Q⟩;rw[P1 (kx l) B];exact O
 ·exact⟨h.app _ _ _ m,by simp,bt E _⟩
 ·rintro _ I ⟨_,v,r,G⟩;unfold kH;rw[r];refine⟨by simp,?_⟩;have w:=h.set _ _ _ _ (.loop ⟨.exhausted,none,[(13,.clo 189 [] [.d (.ref [.sl 32 (o.map aq)])]),(1,.d (.ref [.sl 37 (l.map b8)])),(2,.ptr g 0)],[14,15],35,jD,iT⟩) v a8 r (.inr ⟨_,rfl⟩);have J:(o.reverse.take o.length).flatMap (kx l)=kW l:=by rw[e,dm (by simp)]
  rw[J]at w;show la 0 (pG [] fun d c=>d=vT∧S (kW l).length c) .normal _ _;refine aw @wj trivial ?_
  all_goals first|exact w|exact⟨rfl,w⟩|trace_state
theorem PU(l:aP)(s:List aa):aT Tryz.prog 93 [.d (.sl 37 (l.map b8))] s fun d a=>d= .clo 135 [] [.d (.ref [.sl 37 (l.map b8)])]∧a=s:=by
 refine aT.of (F:=yT) RN (by simp[yT]) ?_;simp only[yT];exact bx (ga @uM @wj) trivial
 all_goals first|rfl|exact⟨rfl,rfl⟩
abbrev MI:=List (ar×AV)
def cI(m:MI):List (List Value×AV):=m.map fun e=>(cJ e.1,e.2)
def gB(d:ar):MI→Nat→Option (Nat×AV)
 |[],_=>none
 |e::m,i=>if d=e.1 then some (i,e.2)else gB d m (i+1)
theorem vi(d:ar): ∀(m:MI) (i:Nat),dC dv (cJ d) (cI m) i=some (gB d m i)
 |[],_=>rfl
 |e::m,i=>by
  show((bw dv (cJ d) (cJ e.1)).bind fun b=>if b=true then some (some (i,e.2))else dC dv (cJ d) (cI m) (i+1))=_;rw[Hh,dF,vi d m (i+1),gB];by_cases h:d=e.1<;>simp[h]
theorem Gp(m:MI):(cI m).length=m.length:=aL _
theorem NI(a b:MI):cI (a++b)=cI a++cI b:=eX
theorem CT(a:MI)(d:ar)(v:AV):cI a++[(cJ d,v)]=cI (a++[(d,v)]):=by rw[NI];rfl
theorem ow(m:MI)(i:Nat)(d:ar)(v:AV):(cI m).set i (cJ d,v)=cI (m.set i (d,v)):=by unfold cI;rw[List.map_set]
theorem Hr{d:ar}: ∀{m:MI} {i:Nat},gB d m i=none↔d∉m.map (·.1)
 |[],_=>by simp[gB]
 |e::m,i=>by
  rw[gB,bO,bY];by_cases h:d=e.1
  ·simp[h]
  ·rw[if_neg h,Hr];simp[h]
abbrev fe:=List (ar×List ar)
def iQ(V:fe)(key:ar)(news:List ar):fe:=if key∈V.map (·.1)then V.map fun e=>if e.1=key then(e.1,e.2++news)else e else V++[(key,news)]
def ig(s:List aa)(v:AV)(l:List ar):Prop:=(v= .nil 33∧l=[])∨ ∃r,v= .tsl r 33 (l.map ab)∧s[r]?=some (.row 60 33 l.length)
structure TI(n:Nat)(M:MI)(V:fe)(s:List aa):Prop where
 map:s[n]?=some (.map true (cI M))
 keys:M.map (·.1)=V.map (·.1)
 nd:(V.map (·.1)).Nodup
 row: ∀(j:Nat) (k:ar) (v:AV),M[j]?=some (k,v)→ ∃l,V[j]?=some (k,l)∧ig s v l
 apart: ∀(i j:Nat) (e e':ar×AV) (r:Nat),i≠j→M[i]?=some e→M[j]?=some e'→rowId e.2=some r→rowId e'.2≠some r
theorem ig.app{s:List aa}{v:AV}{l:List ar}(h:ig s v l)(x:List aa):ig (s++x) v l:=h.imp id fun⟨r,a,b⟩=>⟨r,a,bt b x⟩
theorem ig.set{s:List aa}{v:AV}{l:List ar}(h:ig s v l){i:Nat}{o:aa}(hi:rowId v≠some i):ig (s.set i o) v l:=h.imp id fun⟨r,a,b⟩=>⟨r,a,getSet b fun e=>hi (by rw[a,←e];rfl)⟩
theorem TI.app{n:Nat}{M:MI}{V:fe}{s:List aa}(h:TI n M V s)(x:List aa):TI n M V (s++x):=
 ⟨bt h.map x,h.keys,h.nd,fun j k v c=>let⟨l,a,b⟩:=h.row j k v c;⟨l,a,b.app x⟩,h.apart⟩
theorem TI.upd{n:Nat}{M M':MI}{V:fe}{s J:List aa}(h:TI n M V s){key:ar}{v:AV}{l news:List ar}(hm:J[n]?=some (.map true (cI M')))
  (Q:(key∉V.map (·.1)∧M'=M++[(key,v)]∧l=news)∨ ∃j v0 I,M[j]?=some (key,v0)∧V[j]?=some (key,I)∧M'=M.set j (key,v)∧l=I++news)
  (N:ig J v l) (w: ∀(j:Nat) (k:ar) (g:AV) (l':List ar),k≠key→M[j]?=some (k,g)→ig s g l'→ig J g l')
  (H: ∀r,rowId v=some r→ ∀(j:Nat) (k:ar) (g:AV),k≠key→M[j]?=some (k,g)→rowId g≠some r):TI n M' (iQ V key news) J:=by
 have E:M.length=V.length:=by have:=congrArg List.length h.keys;simpa using this
 rcases Q with⟨B,rfl,rfl⟩|⟨j0,v0,I,hj0,hV0,rfl,rfl⟩
 ·unfold iQ;rw[if_neg B];have D: ∀(j:Nat) (k:ar) (g:AV),M[j]?=some (k,g)→k≠key:=fun j k g c e=>B (by rw[←h.keys,←e];exact j3 (f:=Prod.fst) (bT c));refine⟨hm,by simp[h.keys],?_,fun j k g c=> ?_,fun i j e o r y hi c m=> ?_⟩
  ·rw[eX];exact List.nodup_append.2 ⟨h.nd,by simp,fun a ha b hb e=>B (by simp at hb;rw[←hb,←e];exact ha)⟩
  ·rw[gY]at c;rw[gY];split at c
   ·rename_i F;rw[if_pos a8];obtain⟨l',A,K⟩:=h.row j k g c;exact⟨l',A,w j k g l' (D j k g c) c K⟩
   ·rename_i F;rw[if_neg a8];have u:j-M.length=0:=by
     rcases nW (j-M.length)with h0|h0
     ·exact h0
     ·rw[fZ (by simp;omega)]at c;cases c
    rw[u]at c;rw[←E,u];simp at c;obtain⟨rfl,rfl⟩:=c;exact⟨l,rfl,N⟩
  ·have d: ∀(i:Nat) (e:ar×AV),(M++[(key,v)])[i]?=some e→(M[i]?=some e∧e.1≠key)∨(i=M.length∧e=(key,v)):=fun i e hi=>by
    rw[gY]at hi;split at hi
    ·exact .inl ⟨hi,D i e.1 e.2 hi⟩
    ·rename_i F;have u:i-M.length=0:=by
      rcases nW (i-M.length)with h0|h0
      ·exact h0
      ·rw[fZ (by simp;omega)]at hi;cases hi
     rw[u]at hi;simp at hi;exact .inr ⟨by omega,hi.symm⟩
   rcases d i e hi with⟨hi,x⟩|⟨hi,rfl⟩
   ·rcases d j o c with⟨c,p⟩|⟨c,rfl⟩
    ·exact h.apart i j e o r y hi c m
    ·intro t;exact H r t i e.1 e.2 x hi m
   ·rcases d j o c with⟨c,p⟩|⟨c,rfl⟩
    ·exact H r m j o.1 o.2 p c
    ·omega
 ·have L:key∈V.map (·.1):=j3 (f:=Prod.fst) (bT hV0);have C:j0<M.length:=(aR.1 hj0).1;have G: ∀(j:Nat) (l':List ar),V[j]?=some (key,l')→j=j0:=fun j l' c=>by
   have O:(V.map (·.1))[j]?=some key:=by rw[cC,c];rfl
   have t:(V.map (·.1))[j0]?=some key:=by rw[cC,hV0];rfl
   exact(List.getElem?_inj (by rw[aL];exact(aR.1 c).1) h.nd).1 (O.trans t.symm)
  have q:(V.map fun e=>if e.1=key then(e.1,e.2++news)else e).map (·.1)=V.map (·.1):=by
   rw[lk];apply List.map_congr_left;intro e _;show(if e.1=key then(e.1,e.2++news)else e).1=e.1;split<;>rfl
  have z:(M.set j0 (key,v)).map (·.1)=M.map (·.1):=by
   apply fy;intro j;rw[cC,cC];by_cases e:j=j0
   ·subst e;rw[dJ C,hj0];rfl
   ·rw[bs (Ne.symm e)]
  unfold iQ;rw[if_pos L];have d: ∀(i:Nat) (e:ar×AV),(M.set j0 (key,v))[i]?=some e→(M[i]?=some e∧i≠j0∧e.1≠key)∨(i=j0∧e=(key,v)):=fun i e hi=>by
   by_cases t:i=j0
   ·subst t;rw[dJ C]at hi;exact .inr ⟨rfl,(az hi).symm⟩
   ·rw[bs (Ne.symm t)]at hi;refine .inl ⟨hi,t,fun P=>t ?_⟩;obtain⟨l',A,_⟩:=h.row i e.1 e.2 hi;rw[P]at A;exact G i l' A
  refine⟨hm,by rw[z,q,h.keys],by rw[q];exact h.nd,fun j k g c=> ?_,fun i j e o r y hi c m=> ?_⟩
  ·rw[cC];rcases d j _ c with⟨c,hne,B⟩|⟨rfl,e⟩
   ·obtain⟨l',A,K⟩:=h.row j k g c;exact⟨l',by rw[A,eY,if_neg B],w j k g l' B c K⟩
   ·cases e;exact⟨I++news,by rw[hV0,eY,if_pos rfl],N⟩
  ·rcases d i e hi with⟨hi,_,x⟩|⟨hi,rfl⟩
   ·rcases d j o c with⟨c,_,p⟩|⟨c,rfl⟩
    ·exact h.apart i j e o r y hi c m
    ·intro t;exact H r t i e.1 e.2 x hi m
   ·rcases d j o c with⟨c,_,p⟩|⟨c,rfl⟩
    ·exact H r m j o.1 o.2 p c
    ·omega
theorem Hq{d:ar}: ∀{m:MI} {i j:Nat} {v:AV},gB d m i=some (j,v)→i≤j∧m[j-i]?=some (d,v)
 |[],i,j,v,h=>by cases h
 |e::m,i,j,v,h=>by
  rw[gB]at h;by_cases a:d=e.1
  ·rw[if_pos a]at h;simp only[Option.some.injEq,Prod.mk.injEq]at h;obtain⟨rfl,rfl⟩:=h;exact⟨bh _,by rw[ia,a];rfl⟩
  ·rw[if_neg a]at h;obtain⟨c,b⟩:=Hq h;refine⟨by omega,?_⟩;have:j-i=(j-(i+1))+1:=by omega
   rw[this];exact b
theorem TI.find{n:Nat}{M:MI}{V:fe}{s:List aa}(h:TI n M V s)(key:ar):(gB key M 0=none∧key∉V.map (·.1))∨ ∃j v l,gB key M 0=some (j,v)∧M[j]?=some (key,v)∧V[j]?=some (key,l)∧ig s v l:=by
 cases b:gB key M 0 with
 |none=>exact .inl ⟨rfl,by rw[←h.keys];exact Hr.1 b⟩
 |some r=>
  obtain⟨j,v⟩:=r;have a:=(Hq b).2;rw[nZ]at a;obtain⟨l,c,d⟩:=h.row j key v a;exact .inr ⟨j,v,l,rfl,a,c,d⟩
theorem ig.setN{s:List aa}{v:AV}{l:List ar}(h:ig s v l){n:Nat}{o:aa}{e:List (List Value×AV)}(c:s[n]?=some (.map true e)):ig (s.set n o) v l:=h.imp id fun⟨r,b,a⟩=>⟨r,b,getSet a fun e=>by subst e;rw[c]at a;cases a⟩
theorem ig.lt{s:List aa}{v:AV}{l:List ar}(h:ig s v l){r:Nat}(a:rowId v=some r):s[r]?=some (.row 60 33 l.length)∧v= .tsl r 33 (l.map ab):=by
 rcases h with⟨rfl,_⟩|⟨r',rfl,h2⟩
 ·cases a
 ·cases a;exact⟨h2,rfl⟩
theorem TI.none0{n:Nat}{M:MI}{V:fe}{s:List aa}(h:TI n M V s){key:ar}(b:key∉V.map (·.1)):TI n (M++[(key,.nil 33)]) (iQ V key []) (s.set n (.map true (cI (M++[(key,.nil 33)])))):=
 h.upd (ed h.map) (.inl ⟨b,rfl,rfl⟩) (.inl ⟨rfl,rfl⟩) (fun j k c l' _ _ a=>a.setN h.map) (fun r a=>by cases a)
theorem TI.new1{n:Nat}{M M':MI}{V:fe}{s:List aa}(h:TI n M V s){key x:ar}{o:aa}(p: ∃e,o= .map true e)(i:(key∉V.map (·.1)∧M'=M++[(key,.tsl s.length 33 [ab x])])∨ ∃j v0,M[j]?=some (key,v0)∧V[j]?=some (key,[])∧M'=M.set j (key,.tsl s.length 33 [ab x])):
  TI n M' (iQ V key [x]) ((s.set n o++[aa.row 60 33 1]).set n (.map true (cI M'))):=by
 obtain⟨e,rfl⟩:=p;have q:=(aR.1 h.map).1;have b:(s.set n (.map true e)++[aa.row 60 33 1])[n]?=some (.map true e):=bt (ed h.map) _
 refine h.upd (l:=[x]) (v:= .tsl s.length 33 [ab x]) (ed b) ?_ (.inr ⟨s.length,rfl,getSet (by rw[gZ (by simp)];simp) a8⟩) (fun j k f l' _ _ d=>((d.setN h.map).app _).setN b) (fun r d j k f _ m=> ?_)
 ·rcases i with⟨c,a⟩|⟨j,v0,c,a,h3⟩
  ·exact .inl ⟨c,a,rfl⟩
  ·exact .inr ⟨j,v0,[],c,a,h3,rfl⟩
 ·cases d;intro g;obtain⟨l',c,a⟩:=h.row j k f m;have:=(aR.1 (a.lt g).1).1;omega
theorem TI.hit0{n:Nat}{M:MI}{V:fe}{s:List aa}(h:TI n M V s){key:ar}{j:Nat}(a:M[j]?=some (key,.nil 33))(c:V[j]?=some (key,[])):TI n M (iQ V key []) s:=
 h.upd (v:= .nil 33) h.map (.inr ⟨j,_,[],a,c,by
  apply fy;intro i;by_cases e:i=j
  ·subst e;rw[dJ (aR.1 a).1,a]
  ·rw[bs (Ne.symm e)],rfl⟩) (.inl ⟨rfl,rfl⟩) (fun j k d l' _ _ b=>b) (fun r b=>by cases b)
theorem TI.grow{n:Nat}{M:MI}{V:fe}{s:List aa}(h:TI n M V s){key:ar}{j r:Nat}{l news:List ar}(g:M[j]?=some (key,.tsl r 33 (l.map ab)))(q:V[j]?=some (key,l))(m:s[r]?=some (.row 60 33 l.length)):
  TI n (M.set j (key,.tsl r 33 ((l++news).map ab))) (iQ V key news) ((s.set r (.row 60 33 (l.length+news.length))).set n (.map true (cI (M.set j (key,.tsl r 33 ((l++news).map ab)))))):=by
 have f:r≠n:=fun e=>by subst e;rw[h.map]at m;cases m
 have d:(s.set r (.row 60 33 (l.length+news.length)))[n]?=some (.map true (cI M)):=getSet h.map f;have b: ∀(i:Nat) (k:ar) (a:AV),k≠key→M[i]?=some (k,a)→rowId a≠some r:=fun i k a c hi e=>
  h.apart i j _ _ r (fun p=>by subst p;rw[hi]at g;exact c (congrArg Prod.fst (az g))) hi g e rfl
 exact h.upd (ed d) (.inr ⟨j,_,l,g,q,rfl,rfl⟩) (.inr ⟨r,rfl,getSet (by rw[ed m,aN]) (Ne.symm f)⟩) (fun i k a l' c hi t=>(t.set (b i k a c hi)).setN d) (fun r' o i k a c hi=>by cases o;exact b i k a c hi)
theorem xr{M:MI}{j:Nat}{d:ar}{v:AV}(h:M[j]?=some (d,v)):(cI M)[j]?=some (cJ d,v):=by unfold cI;rw[cC,h];rfl
theorem N3{V:fe}{key:ar}{news:List ar}{c:Nat}(h: ∀e∈V,e.2.length≤c): ∀e∈iQ V key news,e.2.length≤c+news.length:=fun e a=>by
 unfold iQ at a;split at a
 ·obtain⟨b,h0,rfl⟩:=cy.1 a;have:=h b h0;split
  ·show(b.2++news).length≤_;rw[aN];omega
  ·omega
 ·rcases fL.1 a with a|a
  ·have:=h e a;omega
  ·simp at a;subst a;simp
def iF(R:List ar):MI:=R.map fun d=>(d,.d (dB true))
def tc(R:List ar)(d:ar):List ar:=if gC R d=true then R else R++[d]
def oL(x:aJ):List ar→List ar×fe→List ar×fe
 |[],b=>b
 |d::l,b=>oL x l (if x.kind=7 then tc b.1 d else b.1,iQ b.2 d [x.id])
def nw:List aJ→List ar×fe→List ar×fe
 |[],b=>b
 |x::l,b=>nw l (if gC b.1 x.id=true then b else oL x x.over b)
theorem I6: ∀(l:List aJ) (x:aJ) (b:List ar×fe),nw (l++[x]) b=(if gC (nw l b).1 x.id=true then nw l b else oL x x.over (nw l b))
 |[],x,b=>rfl
 |y::l,x,b=>by rw[ma,nw,nw,I6 l x]
theorem Du(R:List ar)(d:ar):gC R d=true↔d∈R:=by
 induction R with
 |nil=>simp[gC]
 |cons y l a=>
  rw[gC];by_cases h:y=d
  ·simp[h]
  ·rw[if_neg h,a];simp[Ne.symm h]
theorem Dh(d:ar): ∀(O:List ar) (i:Nat),if gC O d=true then∃j,gB d (iF O) i=some (i+j,.d (dB true))∧O[j]?=some d else gB d (iF O) i=none
 |[],i=>by simp[gC,iF,gB]
 |e::O,i=>by
  have a:=Dh d O (i+1);show if gC (e::O) d=true then∃j,(if d=e then some (i,_)else gB d (iF O) (i+1))=_∧_ else(if d=e then some (i,_)else gB d (iF O) (i+1))=none;by_cases h:d=e
  ·subst h;rw[if_pos ((Du _ _).2 (by simp))];exact⟨0,if_pos rfl,rfl⟩
  ·rw[if_neg h];have c:gC (e::O) d=gC O d:=by rw[nQ,Du,Du];simp[h]
   rw[c];by_cases b:gC O d=true
   ·rw[if_pos b]at a⊢;obtain⟨j,f,g⟩:=a;exact⟨j+1,by rw[f];congr 2;omega,by simpa using g⟩
   ·rw[if_neg b]at a⊢;exact a
theorem OY(O:List ar)(d:ar):((gB d (iF O) 0).map (·.2)).getD (.d (dB false))= .d (dB (gC O d)):=by
 have h:=Dh d O 0;by_cases a:gC O d=true
 ·rw[if_pos a]at h;obtain⟨j,b,_⟩:=h;rw[b,a];rfl
 ·rw[if_neg a]at h;rw[h,show gC O d=false by simpa using a];rfl
theorem Y1(R:List ar)(d:ar):p6 (cI (iF R)) (cJ d) (.d (dB true)) (gB d (iF R) 0)=cI (iF (tc R d)):=by
 have h:=Dh d R 0;unfold tc;by_cases a:gC R d=true
 ·rw[if_pos a]at h⊢;obtain⟨j,b,c⟩:=h;rw[b,au,Y2,ow];congr 1;apply fy;intro i;by_cases e:i=j
  ·subst e;have hm:(iF R)[i]?=some (d,.d (dB true)):=by unfold iF;rw[cC,c];rfl
   rw[dJ (aR.1 hm).1,hm]
  ·rw[bs (Ne.symm e)]
 ·rw[if_neg a]at h⊢;rw[h,wu,CT];simp[iF]
theorem ig.setC{s:List aa}{v:AV}{l:List ar}(h:ig s v l){j:Nat}{o o':aa}(c:s[j]?=some o)(d: ∀e z n,o≠ .row e z n):ig (s.set j o') v l:=h.imp id fun⟨r,b,a⟩=>⟨r,b,getSet a fun e=>by subst e;rw[c]at a;exact d _ _ _ (az a)⟩
theorem TI.setC{n:Nat}{M:MI}{V:fe}{s:List aa}(h:TI n M V s){j:Nat}{o o':aa}(c:s[j]?=some o)(d:j≠n)(f: ∀e z n,o≠ .row e z n):TI n M V (s.set j o'):=
 ⟨getSet h.map d,h.keys,h.nd,fun i k v hi=>let⟨l,a,b⟩:=h.row i k v hi;⟨l,a,b.setC c f⟩,h.apart⟩
theorem gJ.refl(b:Nat)(s:List aa):gJ b s s:=fun _ _ _ h _=>h
theorem gJ.app{b:Nat}{s a:List aa}(h:gJ b s a)(J:List aa):gJ b s (a++J):=fun j o c e d=>bt (h j o c e d) J
theorem gJ.set{b:Nat}{s c:List aa}(h:gJ b s c){j:Nat}{o o':aa}(g:c[j]?=some o)(d:j<b∨((∀cs,o≠ .cells cs)∧ ∀L,o≠ .loop L)):gJ b s (c.set j o'):=fun i x hi k f=>by
 have a:=h i x hi k f;refine getSet a fun e=> ?_;subst e;rcases d with d|⟨h2,h3⟩
 ·omega
 ·rw[g]at a;cases a;rcases f with⟨cs,e⟩|⟨L,e⟩
  ·exact h2 cs e
  ·exact h3 L e
end Go.Proofs.Q
