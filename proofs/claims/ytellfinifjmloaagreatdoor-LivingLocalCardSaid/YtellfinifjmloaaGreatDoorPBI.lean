/- Lemmas. -/
import Derived.Test.YtellfinifjmloaaGreatDoorPBH
set_option linter.unusedVariables false
set_option linter.unusedSimpArgs false
namespace Go.Proofs.Q
open Go Go.Bb Go.RowKit Go.Proofs.Lg
open Go.Ab (D RD)
theorem EA{n:Int}(b: -9223372036854775808≤n)(c:n<9223372036854775808):IntKind.i64.wrap n=n:=by
 simp only[IntKind.wrap,IntKind.bits,IntKind.signed];have a:n % 2^64=n∨n % 2^64=n+2^64:=by omega
 rcases a with a|a
 ·simp only[a];simp;omega
 ·simp only[a];simp;omega
theorem R7(l:List Dg)(s:List aa):b7 Tryz.prog 134 [.d (.sl 32 (l.map aP))] s fun d a=>d= .clo 195 [] [.d (.ref [.sl 32 (l.map aP)])]∧a=s:=by
 refine b7.of (F:=Aj) W4 (by simp[Aj]) ?_;simp only[Aj];exact bU (ga @z7 @wj) ab
 all_goals first|rfl|exact⟨rfl,rfl⟩
theorem R5(l:List au)(s:List aa):b7 Tryz.prog 136 [.d (.sl 172 (l.map aI))] s fun d a=>d= .clo 198 [] [.d (.ref [.sl 172 (l.map aI)])]∧a=s:=by
 refine b7.of (F:=Ah) W2 (by simp[Ah]) ?_;simp only[Ah];exact bU (ga @z7 @wj) ab
 all_goals first|rfl|exact⟨rfl,rfl⟩
theorem R6(l:List Dg)(v:l.length≤100000000)(i:Nat)(S:Nat→List aa→Prop)
  (hround: ∀(k:Nat) (x:Dg) (n:Int) (s:List aa) (K:AV→List aa→Prop),l.reverse[k]?=some x→S k s→(∀a,S (k+1) a→K (.d (dB true)) a)→iD Tryz.prog i [.d (dI n),.d (.agg (aP x))] s K)
  (s:List aa) (f:S 0 s):b7 Tryz.prog 195 [.yld i,.d (.ref [.sl 32 (l.map aP)])] s fun d a=>d=vT∧S l.length a:=by
 have u:IntKind.i64.wrap ((l.length:Int)-1)=(l.length:Int)-1:=EA a8 a8;refine b7.of (F:=Ak) W5 (by simp[Ak]) ?_;simp only[Ak];refine aO (ga @u @wj) ab ?_
 refine aZ.overI l.reverse (fun k (b:List aa)=>[(3,.d (.sc (.int .i64 ((l.length:Int)-1-(k:Int)))))]) (fun _ b=>b) (fun _ _=>()) () (fun k b=>S k b) s (by simp;omega) aB (by simp only[wy,qg,aH,simprocAttr,aA,aF,aE,aw];simp) rfl rfl f (fun k s x hg hk h t g c=> ?_) (fun s h g c=> ?_)
 ·rw[nI]at hk;have e:decide ((l.length:Int)-1-(k:Int)≥0)=true:=by simp;omega
  have j:(0≤(l.length:Int)-1-(k:Int))=True:=by simp;omega
  have m:((l.length:Int)-1-(k:Int)).toNat=l.length-1-k:=by omega
  have o:IntKind.i64.wrap ((l.length:Int)-1-(k:Int)-1)=(l.length:Int)-1-((k+1:Nat):Int):=by rw[EA a8 a8];omega
  have p:l[l.length-1-k]?=some x:=by rw[List.getElem?_reverse a8]at hg;exact hg
  have r:=fun n K=>hround k x n s K hg c;clear hround g h t f
  repeat' first|refine ae (fun _=> ?_) fun _=> ?_|refine aL ?_|(refine aq.yld (r _ _ (fun a q=> ?_)))|simp only[e,j,m,o,p,wj,wy,qg,aH,simprocAttr,aA,aF,aE,aw]
  exact q
 ·rw[nI]at c;have e:decide ((l.length:Int)-1-(l.length:Int)≥0)=false:=by simp;omega
  repeat' first|refine ae (fun _=> ?_) fun _=> ?_|refine aL ?_|simp only[e,nI,wj,wy,qg,aH,simprocAttr,aA,aF,aE,aw]
  all_goals first|exact c|trace_state
theorem R4(l:List au)(v:l.length≤100000000)(i:Nat)(S:Nat→List aa→Prop)
  (hround: ∀(k:Nat) (x:au) (n:Int) (s:List aa) (K:AV→List aa→Prop),l.reverse[k]?=some x→S k s→(∀a,S (k+1) a→K (.d (dB true)) a)→iD Tryz.prog i [.d (dI n),.d (.agg (aI x))] s K)
  (s:List aa) (f:S 0 s):b7 Tryz.prog 198 [.yld i,.d (.ref [.sl 172 (l.map aI)])] s fun d a=>d=vT∧S l.length a:=by
 have u:IntKind.i64.wrap ((l.length:Int)-1)=(l.length:Int)-1:=EA a8 a8;refine b7.of (F:=Ai) W3 (by simp[Ai]) ?_;simp only[Ai];refine aO (ga @u @wj) ab ?_
 refine aZ.overI l.reverse (fun k (b:List aa)=>[(3,.d (.sc (.int .i64 ((l.length:Int)-1-(k:Int)))))]) (fun _ b=>b) (fun _ _=>()) () (fun k b=>S k b) s (by simp;omega) aB (by simp only[wy,qg,aH,simprocAttr,aA,aF,aE,aw];simp) rfl rfl f (fun k s x hg hk h t g c=> ?_) (fun s h g c=> ?_)
 ·rw[nI]at hk;have e:decide ((l.length:Int)-1-(k:Int)≥0)=true:=by simp;omega
  have j:(0≤(l.length:Int)-1-(k:Int))=True:=by simp;omega
  have m:((l.length:Int)-1-(k:Int)).toNat=l.length-1-k:=by omega
  have o:IntKind.i64.wrap ((l.length:Int)-1-(k:Int)-1)=(l.length:Int)-1-((k+1:Nat):Int):=by rw[EA a8 a8];omega
  have p:l[l.length-1-k]?=some x:=by rw[List.getElem?_reverse a8]at hg;exact hg
  have r:=fun n K=>hround k x n s K hg c;clear hround g h t f
  repeat' first|refine ae (fun _=> ?_) fun _=> ?_|refine aL ?_|(refine aq.yld (r _ _ (fun a q=> ?_)))|simp only[e,j,m,o,p,wj,wy,qg,aH,simprocAttr,aA,aF,aE,aw]
  exact q
 ·rw[nI]at c;have e:decide ((l.length:Int)-1-(l.length:Int)≥0)=false:=by simp;omega
  repeat' first|refine ae (fun _=> ?_) fun _=> ?_|refine aL ?_|simp only[e,nI,wj,wy,qg,aH,simprocAttr,aA,aF,aE,aw]
  all_goals first|exact c|trace_state
def ko:CC:=fo [o0 4 (.box (.c (.agg ej))),oN (.st 32 (.t 4) (.t 15))]
def kp:CC:=fo [o0 10 (.box (.c (.agg dZ))),oN (.st 172 (.t 10) (.t 30))]
def kx:CC:= .block 3 (.seq (fo [o0 31 (.ld none (.t 2)),o0 32 (.ld (some 172) (.t 10)),o0 33 (.call (.val (.t 31)) [(.t 32)]),o0 34 (.not (.t 33))]) (.cond (.t 34) .ret .skip))
def ja:CC:= .block 1 (.seq
 (fo [o0 17 (.ld none (.t 1)),o0 18 (.ld (some 32) (.t 4)),o0 19 (.call (.fn 46) [(.t 17),(.t 18)]),om 16 19,o0 20 (.ext (.t 16) 0),o0 21 (.ext (.t 16) 1),o0 5 (.box (.c (.agg mH))),oN (.st 5 (.t 5) (.t 20)),om 6 21])
 (.seq
 (fo [o0 23 (.ld (some 5) (.t 5)),o0 24 (.call (.fn 47) [(.t 23)]),om 22 24,o0 25 (.ext (.t 22) 0),o0 26 (.ext (.t 22) 1),om 7 25,om 8 26])
 (.seq
 (fo [om 27 7,o0 28 (.call (.fn 136) [(.t 27)])])
 (.block 2
 (.trim [28,2]
 (.rng 35 (.t 28) [29,30] kp kx))))))
def gX(base:Nat)(s a:List aa):Prop:= ∀j o,base≤j→s[j]?=some o→((∃cs,o= .cells cs)∨ ∃L,o= .loop L)→a[j]?=some o
structure Cons(i base:Nat)(A:List au)(S:Nat→List aa→Prop):Prop where
 app: ∀k s o,S k s→S k (s++[o])
 set: ∀k s j o o',S k s→base≤j→s[j]?=some o→((∃cs,o= .cells cs)∨ ∃L,o= .loop L)→S k (s.set j o')
 len: ∀k s,S k s→base≤s.length
 round: ∀(k:Nat) (x:au) (s:List aa) (K:AV→List aa→Prop),A[k]?=some x→S k s→(∀s',S (k+1) s'→gX base s s'→K (.d (dB true)) s')→iD Tryz.prog i [.d (.agg (aI x))] s K
set_option maxHeartbeats 1000000 in
theorem UF{i base f a b k:Nat}{A:List au}{S:Nat→List aa→Prop}(j:Cons i base A S){fr:Fr}{l:aa}(C:base≤f)(D:f<a)(y:a<b)(t:Bb.look fr 2=some (.ptr f 0))(x:au)(n:Int)(B:A[k]?=some x){s:List aa}(w:S k s)
  (ha:s[a]?=some l) (m: ∃L,l= .loop L) (hb:s[b]?=some (.loop ⟨.ready,none,fr,[29,30],35,kp,kx⟩)) (o:s[f]?=some (.cells [.yld i])) {K:AV→List aa→Prop}
  (v: ∀g,S (k+1) g→g[a]?=some l→g[b]?=some (.loop ⟨.ready,none,fr,[29,30],35,kp,kx⟩)→g[f]?=some (.cells [.yld i])→K (.d (dB true)) g):iD Tryz.prog b [.d (dI n),.d (.agg (aI x))] s K:=by
 have z:=(b9.1 hb).1;unfold iD;rw[hb];refine⟨rfl,rfl,?_⟩;simp only[kp,kx,putL,oM,List.zip_nil_right]
 repeat' first|refine ae (fun _=> ?_) fun _=> ?_|refine aL ?_|simp only[dC,bb,kI,bz,aQ,wj,wy,qg,aH,simprocAttr,aA,aF,aE,aw]
 unfold kN;rw[bG hb];refine⟨rfl,?_⟩;have h:=j.set _ _ b _ (.loop ⟨.busy,none,fr,[29,30],35,kp,kx⟩) (j.app _ _ (.cells ((aI x).map .d)) w) a8 (bG hb _) (.inr ⟨_,rfl⟩);have t0:((s++[aa.cells (List.map AV.d (aI x))]).set b (.loop ⟨.busy,none,fr,[29,30],35,kp,kx⟩))[f]?=some (.cells [.yld i]):=getSet (bG o _) a8
 have p:((s++[aa.cells (List.map AV.d (aI x))]).set b (.loop ⟨.busy,none,fr,[29,30],35,kp,kx⟩))[s.length]?=some (.cells ((aI x).map .d)):=getSet (by simp) a8;have q:((s++[aa.cells (List.map AV.d (aI x))]).set b (.loop ⟨.busy,none,fr,[29,30],35,kp,kx⟩))[a]?=some l:=getSet (bG ha _) a8
 have r:((s++[aa.cells (List.map AV.d (aI x))]).set b (.loop ⟨.busy,none,fr,[29,30],35,kp,kx⟩))[b]?=some (.loop ⟨.busy,none,fr,[29,30],35,kp,kx⟩):=fA (bG hb _);dsimp only;generalize(s++[aa.cells (List.map AV.d (aI x))]).set b (.loop ⟨.busy,none,fr,[29,30],35,kp,kx⟩)=T at h t0 p q r⊢
 repeat' first|refine ae (fun _=> ?_) fun _=> ?_|refine aL ?_|(refine aq.yld (j.round k x _ _ B h (fun g u c=> ?_)))|simp only[dC,t,t0,p,bb,aQ,wj,wy,qg,aH,simprocAttr,aA,aF,aE,aw]
 have e:=c b _ a8 r (.inr ⟨_,rfl⟩);unfold mV;rw[e];refine v _ (j.set _ _ b _ _ u a8 e (.inr ⟨_,rfl⟩)) ?_ (fA e) ?_
 ·exact getSet (c a _ a8 q (.inr m)) a8
 ·exact getSet (c f _ C t0 (.inl ⟨_,rfl⟩)) a8
def lu(l:aD)(d:Dg):List au:=(dR ((ch l d).getD .zero)).1.reverse
def mj(l:aD):List au:=(jM l l.length []).reverse.flatMap (lu l)
theorem Is(p:aX):(dR p).1.length≤1604400:=by
 unfold dR;split
 ·exact fy _
 ·rw[aQ];exact Fo p
set_option maxHeartbeats 2000000 in
theorem UG{i base b a m:Nat}{l:aD}(hl:l.length≤1000000){A:List au}{S:Nat→List aa→Prop}(k:Cons i base A S){fr:Fr}(hy:base≤b)(N:b<a)(W:Bb.look fr 2=some (.ptr b 0))(V:Bb.look fr 1=some (.d (.ref [.sl 37 (l.map b5)])))(d:Dg)(n:Int)
  (y:(ch l d).isSome=true) (hp:cz ((ch l d).getD .zero)∧du ((ch l d).getD .zero)) (I: ∀j x,(lu l d)[j]?=some x→A[m+j]?=some x) {s:List aa} (Z:S m s)
  (ha:s[a]?=some (.loop ⟨.ready,none,fr,[14,15],35,ko,ja⟩)) (M:s[b]?=some (.cells [.yld i])) {K:AV→List aa→Prop}
  (t: ∀c,S (m+(lu l d).length) c→c[a]?=some (.loop ⟨.ready,none,fr,[14,15],35,ko,ja⟩)→c[b]?=some (.cells [.yld i])→K (.d (dB true)) c):iD Tryz.prog a [.d (dI n),.d (.agg (aP d))] s K:=by
 have a0:=(b9.1 ha).1;have C:=Gs l hl d;obtain⟨p,f⟩: ∃p,p=(ch l d).getD .zero:=⟨_,rfl⟩
 rw[←f,y]at C;rw[←f]at hp;have D:=DJ p hp.1 hp.2;have w:=Is p;have h:lu l d=(dR p).1.reverse:=by rw[lu,f]
 rw[h]at I t;obtain⟨at_,r⟩: ∃q,q=(dR p).1:=⟨_,rfl⟩
 obtain⟨e,R⟩: ∃e,e=(dR p).2:=⟨_,rfl⟩
 rw[←r,←R]at D;rw[←r]at I t w;rw[nI]at t;clear r R f y h;have Q:=fun s=>R5 at_ s;unfold iD;rw[ha];refine⟨rfl,rfl,?_⟩;simp only[ko,ja,putL,oM,List.zip_nil_right]
 repeat' first|refine ae (fun _=> ?_) fun _=> ?_|refine aL ?_|simp only[dC,kK,ba,aQ,wj,wy,qg,aH,simprocAttr,aA,aF,aE,aw]
 unfold kN;rw[bG ha];refine⟨rfl,?_⟩;have o:=k.set _ _ a _ (.loop ⟨.busy,none,fr,[14,15],35,ko,ja⟩) (k.app _ _ (.cells ((aP d).map .d)) Z) a8 (bG ha _) (.inr ⟨_,rfl⟩);have t0:((s++[aa.cells (List.map AV.d (aP d))]).set a (.loop ⟨.busy,none,fr,[14,15],35,ko,ja⟩))[b]?=some (.cells [.yld i]):=getSet (bG M _) a8
 have O:((s++[aa.cells (List.map AV.d (aP d))]).set a (.loop ⟨.busy,none,fr,[14,15],35,ko,ja⟩))[s.length]?=some (.cells ((aP d).map .d)):=getSet (by simp) a8;have P:((s++[aa.cells (List.map AV.d (aP d))]).set a (.loop ⟨.busy,none,fr,[14,15],35,ko,ja⟩))[a]?=some (.loop ⟨.busy,none,fr,[14,15],35,ko,ja⟩):=fA (bG ha _)
 have v:a<((s++[aa.cells (List.map AV.d (aP d))]).set a (.loop ⟨.busy,none,fr,[14,15],35,ko,ja⟩)).length:=by simp;omega
 dsimp only;change cF _ _ ja _ _ ((s++[aa.cells (List.map AV.d (aP d))]).set a (.loop ⟨.busy,none,fr,[14,15],35,ko,ja⟩));generalize(s++[aa.cells (List.map AV.d (aP d))]).set a (.loop ⟨.busy,none,fr,[14,15],35,ko,ja⟩)=T at o t0 O P v⊢;have g:=bG P [.cells ((bc p).map .d)];have z:=bG t0 [.cells ((bc p).map .d)];have u:=k.app _ _ (.cells ((bc p).map .d)) o
 simp only[ja]
 repeat' first|refine ae (fun _=> ?_) fun _=> ?_|refine aL ?_|refine aq.data (C) rfl ?_|refine aq.data (D) rfl ?_|(refine aq.fn ((Q _).mono ?_);rintro _ c ⟨rfl,rfl⟩)|simp only[dC,W,V,t0,O,ba,br,fJ,aQ,wj,wy,qg,aH,simprocAttr,aA,aF,aE,aw]
 generalize J:T++[aa.cells (List.map AV.d (bc p))]=T2 at g z u⊢;have L:a<T2.length:=(b9.1 g).1;clear J o t0 O P v C D Q;rw[HO]
 refine⟨⟨_,g⟩,_,_,_,rfl,lN.fn (b7.mono (R4 at_ a8 T2.length (fun j c=>S (m+j) c∧c[a]?=some (.loop ⟨.busy,none,fr,[14,15],35,ko,ja⟩)∧c[T2.length]?=some (.loop ⟨.ready,none,[(28,.clo 198 [] [.d (.ref [.sl 172 (at_.map aI)])]),(2,.ptr b 0)],[29,30],35,kp,kx⟩)∧c[b]?=some (.cells [.yld i])) ?_ _ ?_) ?_)⟩
 ·rintro j x n c K hx ⟨E,F,B,G⟩ t;exact UF k hy N L rfl x n (I j x hx) E F ⟨_,rfl⟩ B G fun U k1 k2 k3 k4=>t U ⟨k1,k2,k3,k4⟩
 ·exact⟨k.app _ _ _ u,bG g _,by simp,bG z _⟩
 ·rintro _ U ⟨_,E,F,B,G⟩;unfold mL;rw[B];refine⟨by simp,?_⟩;have X:=k.set _ _ _ _ (.loop ⟨.exhausted,none,[(28,.clo 198 [] [.d (.ref [.sl 172 (at_.map aI)])]),(2,.ptr b 0)],[29,30],35,kp,kx⟩) E a8 B (.inr ⟨_,rfl⟩)
  have H:=getSet (o':= .loop ⟨.exhausted,none,[(28,.clo 198 [] [.d (.ref [.sl 172 (at_.map aI)])]),(2,.ptr b 0)],[29,30],35,kp,kx⟩) F (show T2.length≠a by omega);have Y:=getSet (o':= .loop ⟨.exhausted,none,[(28,.clo 198 [] [.d (.ref [.sl 172 (at_.map aI)])]),(2,.ptr b 0)],[29,30],35,kp,kx⟩) G (show T2.length≠b by omega)
  show lM 2 (lM 1 fun e x s=>mV a K e s) .normal _ _;refine aO @wj ab ?_;unfold mV;rw[H];refine t _ (k.set _ _ a _ _ X a8 H (.inr ⟨_,rfl⟩)) (fA H) (getSet Y a8)
theorem Kd{α β:Type}(f:α→List β): ∀(l:List α) (k:Nat) (d:α) (j:Nat) (x:β),l[k]?=some d→(f d)[j]?=some x→(l.flatMap f)[((l.take k).flatMap f).length+j]?=some x
 |[],k,d,j,x,h,_=>by simp at h
 |e::l,0,d,j,x,h,hj=>by
  simp at h;subst h;rw[lR,uj,List.flatMap_nil,b6,aw,fM (b9.1 hj).1];exact hj
 |e::l,k+1,d,j,x,h,hj=>by
  rw[jj,lR,lR,aR,kW,iO a8,mR];exact Kd f l k d j x (by simpa using h) hj
theorem SL{α β:Type}(f:α→List β){l:List α}{k:Nat}{d:α}(h:l[k]?=some d):((l.take (k+1)).flatMap f).length=((l.take k).flatMap f).length+(f d).length:=by
 obtain⟨hk,rfl⟩:=b9.1 h;rw[ui hk,List.flatMap_append,aR];simp
theorem Gj(l:aD): ∀(n:Nat) (O:List Dg),(∀d∈O,d∈bs l)→ ∀d∈jM l n O,d∈bs l
 |0,O,h=>h
 |n+1,O,h=>by
  rw[jM];split
  ·exact h
  ·rename_i c;refine Gj l n _ fun d a=> ?_;rcases eJ.1 a with a|a
   ·exact h d a
   ·rcases Ad (ky O) l 0 with⟨b,_⟩|⟨j,y,b,h2,_,_⟩
    ·rw[b]at c;exact absurd (by decide) c
    ·rw[b,aw,fC,h2]at a;simp at a;subst a;exact fV (bX h2)
theorem Gi(l:aD): ∀(n:Nat) (O:List Dg),(jM l n O).length≤O.length+n
 |0,O=>bk _
 |n+1,O=>by
  rw[jM];split
  ·omega
  ·have:=Gi l n (O++[((l[(eT (ky O) l 0).toNat]?).map (·.id)).getD .zero]);simp at this;omega
theorem FD{l:aD}{d:Dg}(h:d∈bs l): ∃x∈l,ch l d=some x.pat:=by
 induction l with
 |nil=>simp[bs]at h
 |cons y l c=>
  rw[ch];by_cases e:y.id=d
  ·exact⟨y,by simp,by rw[if_pos e]⟩
  ·have a:d∈bs l:=by
    unfold bs at h⊢;rw[bV,bM]at h;rcases h with h|h
    ·exact absurd h.symm e
    ·exact h
   obtain⟨x,b,hg⟩:=c a;exact⟨x,by simp[b],by rw[if_neg e];exact hg⟩
set_option maxHeartbeats 2000000 in
theorem Tz(l:aD)(N:l.length≤100000)(I: ∀x∈l,cz x.pat∧du x.pat)(B: ∀x∈l,(cD x.pat).length≤1000000)(A:(bs l).Nodup)(i base:Nat)(S:Nat→List aa→Prop)(h:Cons i base (mj l) S)(s:List aa)(v:S 0 s):
  b7 Tryz.prog 133 [.yld i,.d (.ref [.sl 37 (l.map b5)])] s fun d c=>d=vT∧S (mj l).length c:=by
 have q:=Zv l N I B A;have b:=Gj l l.length [] (fun d z=>by cases z);have a:=Gi l l.length [];have e:mj l=(jM l l.length []).reverse.flatMap (lu l):=rfl;obtain⟨o,O⟩: ∃o,o=jM l l.length []:=⟨_,rfl⟩
 rw[←O]at q b a e;have u:=fun s=>R7 o s;have p:=h.len _ _ v;have m:=h.app _ _ (.cells [.yld i]) v;refine b7.of (F:=AX) WD (by simp[AX]) ?_;simp only[AX]
 repeat' first|refine ae (fun _=> ?_) fun _=> ?_|refine ay @wj (ga @q @u) ?_|exact ax @wj (ga @q @u)|fail
 change cF Tryz.prog none (.rng 35 (.t 13) [14,15] ko ja) _ _ _;obtain⟨g,f⟩: ∃g,g=s.length:=⟨_,rfl⟩
 have G:(s++[aa.cells [.yld i]])[g]?=some (.cells [.yld i]):=by rw[f];simp
 rw[←f]at p⊢;generalize s++[aa.cells [.yld i]]=T at m G⊢;have E:=(b9.1 G).1;clear v f q u;rw[HO]
 refine⟨trivial,_,_,_,rfl,lN.fn (b7.mono (R6 o (by simp at a;omega) T.length (fun k c=>S ((o.reverse.take k).flatMap (lu l)).length c∧c[T.length]?=some (.loop ⟨.ready,none,[(13,.clo 195 [] [.d (.ref [.sl 32 (o.map aP)])]),(1,.d (.ref [.sl 37 (l.map b5)])),(2,.ptr g 0)],[14,15],35,ko,ja⟩)∧c[g]?=some (.cells [.yld i])) ?_ _ ?_) ?_)⟩
 ·rintro k d n c K C ⟨w,r,H⟩ hK;have z:d∈bs l:=b d (by have:=bX C;simpa using this);obtain⟨x,D,hg⟩:=FD z;refine UG a8 h p E rfl rfl d n (by rw[hg];rfl) (by rw[hg];exact I x D) (fun j x M=>by rw[e];exact Kd (lu l) _ k d j x C M) w r H fun J P Q R=>hK J ⟨?_,Q,R⟩;rw[SL (lu l) C];exact P
 ·exact⟨h.app _ _ _ m,by simp,bG G _⟩
 ·rintro _ J ⟨_,w,r,H⟩;unfold mL;rw[r];refine⟨by simp,?_⟩;have y:=h.set _ _ _ _ (.loop ⟨.exhausted,none,[(13,.clo 195 [] [.d (.ref [.sl 32 (o.map aP)])]),(1,.d (.ref [.sl 37 (l.map b5)])),(2,.ptr g 0)],[14,15],35,ko,ja⟩) w a8 r (.inr ⟨_,rfl⟩);have L:(o.reverse.take o.length).flatMap (lu l)=mj l:=by rw[e,dq (by simp)]
  rw[L]at y;show lM 0 (nM [] fun d c=>d=vT∧S (mj l).length c) .normal _ _;refine aO @wj ab ?_
  all_goals first|exact y|exact⟨rfl,y⟩|trace_state
theorem TC(l:aD)(s:List aa):b7 Tryz.prog 89 [.d (.sl 37 (l.map b5))] s fun d a=>d= .clo 133 [] [.d (.ref [.sl 37 (l.map b5)])]∧a=s:=by
 refine b7.of (F:=AU) WC (by simp[AU]) ?_;simp only[AU];exact bU (ga @z7 @wj) ab
 all_goals first|rfl|exact⟨rfl,rfl⟩
abbrev MI:=List (af×AV)
def cI(m:MI):List (List Value×AV):=m.map fun e=>(df e.1,e.2)
def gp(d:af):MI→Nat→Option (Nat×AV)
 |[],_=>none
 |e::m,i=>if d=e.1 then some (i,e.2)else gp d m (i+1)
theorem sA(d:af): ∀(m:MI) (i:Nat),e9 cJ (df d) (cI m) i=some (gp d m i)
 |[],_=>rfl
 |e::m,i=>by
  show((bx cJ (df d) (df e.1)).bind fun b=>if b=true then some (some (i,e.2))else e9 cJ (df d) (cI m) (i+1))=_;rw[JR,dP,sA d m (i+1),gp];by_cases h:d=e.1<;>simp[h]
theorem IV(m:MI):(cI m).length=m.length:=aQ _
theorem Ru(a b:MI):cI (a++b)=cI a++cI b:=fp
theorem F4(a:MI)(d:af)(v:AV):cI a++[(df d,v)]=cI (a++[(d,v)]):=by rw[Ru];rfl
theorem pX(m:MI)(i:Nat)(d:af)(v:AV):(cI m).set i (df d,v)=cI (m.set i (d,v)):=by unfold cI;rw[List.map_set]
theorem K4{d:af}: ∀{m:MI} {i:Nat},gp d m i=none↔d∉m.map (·.1)
 |[],_=>by simp[gp]
 |e::m,i=>by
  rw[gp,bV,bM];by_cases h:d=e.1
  ·simp[h]
  ·rw[if_neg h,K4];simp[h]
abbrev en:=List (af×List af)
def iR(V:en)(key:af)(news:List af):en:=if key∈V.map (·.1)then V.map fun e=>if e.1=key then(e.1,e.2++news)else e else V++[(key,news)]
theorem IW(a b:List af):c9 a++c9 b=c9 (a++b):=by
 rw[pY,pY,pY,fp,s8,fp]
def tQ:AV→Option Nat
 | .vec r _ _=>some r
 |_=>none
def iC(s:List aa)(v:AV)(l:List af):Prop:=(v= .nil 33∧l=[])∨ ∃r,v= .vec r l.length 33∧s[r]?=some (.vec 27 33 (c9 l))
structure TI(n:Nat)(M:MI)(V:en)(s:List aa):Prop where
 map:s[n]?=some (.map true (cI M))
 keys:M.map (·.1)=V.map (·.1)
 nd:(V.map (·.1)).Nodup
 row: ∀(j:Nat) (k:af) (v:AV),M[j]?=some (k,v)→ ∃l,V[j]?=some (k,l)∧iC s v l
 apart: ∀(i j:Nat) (e e':af×AV) (r:Nat),i≠j→M[i]?=some e→M[j]?=some e'→tQ e.2=some r→tQ e'.2≠some r
theorem iC.app{s:List aa}{v:AV}{l:List af}(h:iC s v l)(x:List aa):iC (s++x) v l:=h.imp id fun⟨r,a,b⟩=>⟨r,a,bG b x⟩
theorem iC.set{s:List aa}{v:AV}{l:List af}(h:iC s v l){i:Nat}{o:aa}(hi:tQ v≠some i):iC (s.set i o) v l:=h.imp id fun⟨r,a,b⟩=>⟨r,a,getSet b fun e=>hi (by rw[a,←e];rfl)⟩
theorem TI.app{n:Nat}{M:MI}{V:en}{s:List aa}(h:TI n M V s)(x:List aa):TI n M V (s++x):=
 ⟨bG h.map x,h.keys,h.nd,fun j k v c=>let⟨l,a,b⟩:=h.row j k v c;⟨l,a,b.app x⟩,h.apart⟩
theorem TI.upd{n:Nat}{M M':MI}{V:en}{s I:List aa}(h:TI n M V s){key:af}{v:AV}{l news:List af}(hm:I[n]?=some (.map true (cI M')))
  (P:(key∉V.map (·.1)∧M'=M++[(key,v)]∧l=news)∨ ∃j v0 H,M[j]?=some (key,v0)∧V[j]?=some (key,H)∧M'=M.set j (key,v)∧l=H++news)
  (L:iC I v l) (w: ∀(j:Nat) (k:af) (g:AV) (l':List af),k≠key→M[j]?=some (k,g)→iC s g l'→iC I g l')
  (G: ∀r,tQ v=some r→ ∀(j:Nat) (k:af) (g:AV),k≠key→M[j]?=some (k,g)→tQ g≠some r):TI n M' (iR V key news) I:=by
 have D:M.length=V.length:=by have:=congrArg List.length h.keys;simpa using this
 rcases P with⟨hk,rfl,rfl⟩|⟨j0,v0,H,hj0,hV0,rfl,rfl⟩
 ·unfold iR;rw[if_neg hk];have C: ∀(j:Nat) (k:af) (g:AV),M[j]?=some (k,g)→k≠key:=fun j k g c e=>hk (by rw[←h.keys,←e];exact fV (f:=Prod.fst) (bX c));refine⟨hm,by simp[h.keys],?_,fun j k g c=> ?_,fun i j e o r y hi c m=> ?_⟩
  ·rw[fp];exact List.nodup_append.2 ⟨h.nd,by simp,fun a ha b hb e=>hk (by simp at hb;rw[←hb,←e];exact ha)⟩
  ·rw[jg]at c;rw[jg];split at c
   ·rename_i E;rw[if_pos a8];obtain⟨l',A,J⟩:=h.row j k g c;exact⟨l',A,w j k g l' (C j k g c) c J⟩
   ·rename_i E;rw[if_neg a8];have u:j-M.length=0:=by
     rcases uo (j-M.length)with h0|h0
     ·exact h0
     ·rw[iA (by simp;omega)]at c;cases c
    rw[u]at c;rw[←D,u];simp at c;obtain⟨rfl,rfl⟩:=c;exact⟨l,rfl,L⟩
  ·have d: ∀(i:Nat) (e:af×AV),(M++[(key,v)])[i]?=some e→(M[i]?=some e∧e.1≠key)∨(i=M.length∧e=(key,v)):=fun i e hi=>by
    rw[jg]at hi;split at hi
    ·exact .inl ⟨hi,C i e.1 e.2 hi⟩
    ·rename_i E;have u:i-M.length=0:=by
      rcases uo (i-M.length)with h0|h0
      ·exact h0
      ·rw[iA (by simp;omega)]at hi;cases hi
     rw[u]at hi;simp at hi;exact .inr ⟨by omega,hi.symm⟩
   rcases d i e hi with⟨hi,x⟩|⟨hi,rfl⟩
   ·rcases d j o c with⟨c,p⟩|⟨c,rfl⟩
    ·exact h.apart i j e o r y hi c m
    ·intro t;exact G r t i e.1 e.2 x hi m
   ·rcases d j o c with⟨c,p⟩|⟨c,rfl⟩
    ·exact G r m j o.1 o.2 p c
    ·omega
 ·have K:key∈V.map (·.1):=fV (f:=Prod.fst) (bX hV0);have B:j0<M.length:=(b9.1 hj0).1;have F: ∀(j:Nat) (l':List af),V[j]?=some (key,l')→j=j0:=fun j l' c=>by
   have N:(V.map (·.1))[j]?=some key:=by rw[dL,c];rfl
   have t:(V.map (·.1))[j0]?=some key:=by rw[dL,hV0];rfl
   exact(List.getElem?_inj (by rw[aQ];exact(b9.1 c).1) h.nd).1 (N.trans t.symm)
  have q:(V.map fun e=>if e.1=key then(e.1,e.2++news)else e).map (·.1)=V.map (·.1):=by
   rw[nJ];apply List.map_congr_left;intro e _;show(if e.1=key then(e.1,e.2++news)else e).1=e.1;split<;>rfl
  have z:(M.set j0 (key,v)).map (·.1)=M.map (·.1):=by
   apply iX;intro j;rw[dL,dL];by_cases e:j=j0
   ·subst e;rw[fx B,hj0];rfl
   ·rw[bC (Ne.symm e)]
  unfold iR;rw[if_pos K];have d: ∀(i:Nat) (e:af×AV),(M.set j0 (key,v))[i]?=some e→(M[i]?=some e∧i≠j0∧e.1≠key)∨(i=j0∧e=(key,v)):=fun i e hi=>by
   by_cases t:i=j0
   ·subst t;rw[fx B]at hi;exact .inr ⟨rfl,(aJ hi).symm⟩
   ·rw[bC (Ne.symm t)]at hi;refine .inl ⟨hi,t,fun O=>t ?_⟩;obtain⟨l',A,_⟩:=h.row i e.1 e.2 hi;rw[O]at A;exact F i l' A
  refine⟨hm,by rw[z,q,h.keys],by rw[q];exact h.nd,fun j k g c=> ?_,fun i j e o r y hi c m=> ?_⟩
  ·rw[dL];rcases d j _ c with⟨c,hne,hk⟩|⟨rfl,e⟩
   ·obtain⟨l',A,J⟩:=h.row j k g c;exact⟨l',by rw[A,eZ,if_neg hk],w j k g l' hk c J⟩
   ·cases e;exact⟨H++news,by rw[hV0,eZ,if_pos rfl],L⟩
  ·rcases d i e hi with⟨hi,_,x⟩|⟨hi,rfl⟩
   ·rcases d j o c with⟨c,_,p⟩|⟨c,rfl⟩
    ·exact h.apart i j e o r y hi c m
    ·intro t;exact G r t i e.1 e.2 x hi m
   ·rcases d j o c with⟨c,_,p⟩|⟨c,rfl⟩
    ·exact G r m j o.1 o.2 p c
    ·omega
theorem K0{d:af}: ∀{m:MI} {i j:Nat} {v:AV},gp d m i=some (j,v)→i≤j∧m[j-i]?=some (d,v)
 |[],i,j,v,h=>by cases h
 |e::m,i,j,v,h=>by
  rw[gp]at h;by_cases a:d=e.1
  ·rw[if_pos a]at h;simp only[Option.some.injEq,Prod.mk.injEq]at h;obtain⟨rfl,rfl⟩:=h;exact⟨bk _,by rw[jl,a];rfl⟩
  ·rw[if_neg a]at h;obtain⟨c,b⟩:=K0 h;refine⟨by omega,?_⟩;have:j-i=(j-(i+1))+1:=by omega
   rw[this];exact b
theorem TI.find{n:Nat}{M:MI}{V:en}{s:List aa}(h:TI n M V s)(key:af):(gp key M 0=none∧key∉V.map (·.1))∨ ∃j v l,gp key M 0=some (j,v)∧M[j]?=some (key,v)∧V[j]?=some (key,l)∧iC s v l:=by
 cases b:gp key M 0 with
 |none=>exact .inl ⟨rfl,by rw[←h.keys];exact K4.1 b⟩
 |some r=>
  obtain⟨j,v⟩:=r;have a:=(K0 b).2;rw[Nat.sub_zero]at a;obtain⟨l,c,d⟩:=h.row j key v a;exact .inr ⟨j,v,l,rfl,a,c,d⟩
theorem iC.setN{s:List aa}{v:AV}{l:List af}(h:iC s v l){n:Nat}{o:aa}{e:List (List Value×AV)}(c:s[n]?=some (.map true e)):iC (s.set n o) v l:=h.imp id fun⟨r,b,a⟩=>⟨r,b,getSet a fun e=>by subst e;rw[c]at a;cases a⟩
theorem iC.lt{s:List aa}{v:AV}{l:List af}(h:iC s v l){r:Nat}(a:tQ v=some r):s[r]?=some (.vec 27 33 (c9 l))∧v= .vec r l.length 33:=by
 rcases h with⟨rfl,_⟩|⟨r',rfl,h2⟩
 ·cases a
 ·cases a;exact⟨h2,rfl⟩
theorem TI.new1{n:Nat}{M M':MI}{V:en}{s:List aa}(h:TI n M V s){key x:af}{o:aa}(p: ∃e,o= .map true e)(i:(key∉V.map (·.1)∧M'=M++[(key,.vec s.length 1 33)])∨ ∃j v0,M[j]?=some (key,v0)∧V[j]?=some (key,[])∧M'=M.set j (key,.vec s.length 1 33)):
  TI n M' (iR V key [x]) ((s.set n o++[aa.vec 27 33 (c9 [x])]).set n (.map true (cI M'))):=by
 obtain⟨e,rfl⟩:=p;have q:=(b9.1 h.map).1;have b:(s.set n (.map true e)++[aa.vec 27 33 (c9 [x])])[n]?=some (.map true e):=bG (fA h.map) _
 refine h.upd (l:=[x]) (v:= .vec s.length 1 33) (fA b) ?_ (.inr ⟨s.length,rfl,getSet (by rw[iO (by simp)];simp) a8⟩) (fun j k f l' _ _ d=>((d.setN h.map).app _).setN b) (fun r d j k f _ m=> ?_)
 ·rcases i with⟨c,a⟩|⟨j,v0,c,a,h3⟩
  ·exact .inl ⟨c,a,rfl⟩
  ·exact .inr ⟨j,v0,[],c,a,h3,rfl⟩
 ·cases d;intro g;obtain⟨l',c,a⟩:=h.row j k f m;have:=(b9.1 (a.lt g).1).1;omega
theorem TI.grow{n:Nat}{M:MI}{V:en}{s:List aa}(h:TI n M V s){key:af}{j r:Nat}{l news:List af}(f:M[j]?=some (key,.vec r l.length 33))(p:V[j]?=some (key,l))(g:s[r]?=some (.vec 27 33 (c9 l))):
  TI n (M.set j (key,.vec r (l++news).length 33)) (iR V key news) ((s.set r (.vec 27 33 (c9 (l++news)))).set n (.map true (cI (M.set j (key,.vec r (l++news).length 33))))):=by
 have d:r≠n:=fun e=>by subst e;rw[h.map]at g;cases g
 have c:(s.set r (.vec 27 33 (c9 (l++news))))[n]?=some (.map true (cI M)):=getSet h.map d;have b: ∀(i:Nat) (k:af) (a:AV),k≠key→M[i]?=some (k,a)→tQ a≠some r:=fun i k a hk hi e=>
  h.apart i j _ _ r (fun o=>by subst o;rw[hi]at f;exact hk (congrArg Prod.fst (aJ f))) hi f e rfl
 exact h.upd (fA c) (.inr ⟨j,_,l,f,p,rfl,rfl⟩) (.inr ⟨r,rfl,getSet (fA g) (Ne.symm d)⟩) (fun i k a l' hk hi q=>(q.set (b i k a hk hi)).setN c) (fun r' m i k a hk hi=>by cases m;exact b i k a hk hi)
theorem zp{M:MI}{j:Nat}{d:af}{v:AV}(h:M[j]?=some (d,v)):(cI M)[j]?=some (df d,v):=by unfold cI;rw[dL,h];rfl
theorem QK{V:en}{key:af}{news:List af}{c:Nat}(h: ∀e∈V,e.2.length≤c): ∀e∈iR V key news,e.2.length≤c+news.length:=fun e a=>by
 unfold iR at a;split at a
 ·obtain⟨b,d,rfl⟩:=bR.1 a;have:=h b d;split
  ·show(b.2++news).length≤_;rw[aR];omega
  ·omega
 ·rcases eJ.1 a with a|a
  ·have:=h e a;omega
  ·simp at a;subst a;simp
def iT(R:List af):MI:=R.map fun d=>(d,.d (dB true))
def qK(R:List af)(d:af):List af:=if dh R d=true then R else R++[d]
def j7(x:au):List af→List af×en→List af×en
 |[],b=>b
 |d::l,b=>j7 x l (if x.kind=7 then qK b.1 d else b.1,iR b.2 d [x.id])
def lf:List au→List af×en→List af×en
 |[],b=>b
 |x::l,b=>lf l (if dh b.1 x.id=true then b else j7 x x.over b)
theorem KO: ∀(l:List au) (x:au) (b:List af×en),lf (l++[x]) b=(if dh (lf l b).1 x.id=true then lf l b else j7 x x.over (lf l b))
 |[],x,b=>rfl
 |y::l,x,b=>by rw[mO,lf,lf,KO l x]
theorem jD(R:List af)(d:af):dh R d=true↔d∈R:=by
 induction R with
 |nil=>simp[dh]
 |cons y l a=>
  rw[dh];by_cases h:y=d
  ·simp[h]
  ·rw[if_neg h,a];simp[Ne.symm h]
theorem Fv(d:af): ∀(O:List af) (i:Nat),if dh O d=true then∃j,gp d (iT O) i=some (i+j,.d (dB true))∧O[j]?=some d else gp d (iT O) i=none
 |[],i=>by simp[dh,iT,gp]
 |e::O,i=>by
  have a:=Fv d O (i+1);show if dh (e::O) d=true then∃j,(if d=e then some (i,_)else gp d (iT O) (i+1))=_∧_ else(if d=e then some (i,_)else gp d (iT O) (i+1))=none;by_cases h:d=e
  ·subst h;rw[if_pos ((jD _ _).2 (by simp))];exact⟨0,if_pos rfl,rfl⟩
  ·rw[if_neg h];have c:dh (e::O) d=dh O d:=by rw[mJ,jD,jD];simp[h]
   rw[c];by_cases b:dh O d=true
   ·rw[if_pos b]at a⊢;obtain⟨j,f,g⟩:=a;exact⟨j+1,by rw[f];congr 2;omega,by simpa using g⟩
   ·rw[if_neg b]at a⊢;exact a
theorem SG(O:List af)(d:af):((gp d (iT O) 0).map (·.2)).getD (.d (dB false))= .d (dB (dh O d)):=by
 have h:=Fv d O 0;by_cases a:dh O d=true
 ·rw[if_pos a]at h;obtain⟨j,b,_⟩:=h;rw[b,a];rfl
 ·rw[if_neg a]at h;rw[h,show dh O d=false by simpa using a];rfl
theorem a29(R:List af)(d:af):oC (cI (iT R)) (df d) (.d (dB true)) (gp d (iT R) 0)=cI (iT (qK R d)):=by
 have h:=Fv d R 0;unfold qK;by_cases a:dh R d=true
 ·rw[if_pos a]at h⊢;obtain⟨j,b,c⟩:=h;rw[b,aw,a3a,pX];congr 1;apply iX;intro i;by_cases e:i=j
  ·subst e;have hm:(iT R)[i]?=some (d,.d (dB true)):=by unfold iT;rw[dL,c];rfl
   rw[fx (b9.1 hm).1,hm]
  ·rw[bC (Ne.symm e)]
 ·rw[if_neg a]at h⊢;rw[h,yo,F4];simp[iT]
theorem iC.setC{s:List aa}{v:AV}{l:List af}(h:iC s v l){j:Nat}{o o':aa}(c:s[j]?=some o)(d: ∀e z n,o≠ .vec e z n):iC (s.set j o') v l:=h.imp id fun⟨r,b,a⟩=>⟨r,b,getSet a fun e=>by subst e;rw[c]at a;exact d _ _ _ (aJ a)⟩
theorem TI.setC{n:Nat}{M:MI}{V:en}{s:List aa}(h:TI n M V s){j:Nat}{o o':aa}(c:s[j]?=some o)(d:j≠n)(f: ∀e z n,o≠ .vec e z n):TI n M V (s.set j o'):=
 ⟨getSet h.map d,h.keys,h.nd,fun i k v hi=>let⟨l,a,b⟩:=h.row i k v hi;⟨l,a,b.setC c f⟩,h.apart⟩
theorem gX.refl(b:Nat)(s:List aa):gX b s s:=fun _ _ _ h _=>h
theorem gX.app{b:Nat}{s a:List aa}(h:gX b s a)(J:List aa):gX b s (a++J):=fun j o c e d=>bG (h j o c e d) J
theorem gX.set{b:Nat}{s c:List aa}(h:gX b s c){j:Nat}{o o':aa}(g:c[j]?=some o)(d:j<b∨((∀cs,o≠ .cells cs)∧ ∀L,o≠ .loop L)):gX b s (c.set j o'):=fun i x hi k f=>by
 have a:=h i x hi k f;refine getSet a fun e=> ?_;subst e;rcases d with d|⟨h2,h3⟩
 ·omega
 ·rw[g]at a;cases a;rcases f with⟨cs,e⟩|⟨L,e⟩
  ·exact h2 cs e
  ·exact h3 L e
end Go.Proofs.Q
