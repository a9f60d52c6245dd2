/- Part of a proof. -/
import Derived.Test.YtfoljakejdgfcaaGreatDoorPBY
set_option linter.unusedVariables false
set_option linter.unusedSimpArgs false
namespace Go.Proofs.Q
open Go Go.Bb Go.RowKit Go.Proofs.Lg
open Go.Ab (D RD)
theorem YV(d:Dg)(p:b9)(s:List aa):aT Tryz.prog 58 [.d (.agg (aq d)),.d (.agg (bk p))] s fun v a=>v= .clo 90 [] [.d (.ref (bk p)),.d (.ref (aq d))]∧a=s:=by
 refine aT.of (F:=Bh) TM (by simp[Bh]) ?_;simp only[Bh];exact bx (ga @uM @wj) trivial
 all_goals first|rfl|exact⟨rfl,rfl⟩
theorem YU(d:Dg)(p:b9)(t:cV p)(o:e8 p)(i:Nat)(S:Nat→List aa→Prop)
  (hround: ∀(k:Nat) (s:List aa) (K:AV→List aa→Prop),k<(dq p).length→S k s→(∀c,S (k+1) c→K (.d (dB true)) c)→gh Tryz.prog i [.d (.agg (ab ⟨d,k⟩))] s K)
  (s:List aa) (m:S 0 s):aT Tryz.prog 90 [.yld i,.d (.ref (bk p)),.d (.ref (aq d))] s fun v c=>v=vT∧S (dq p).length c:=by
 have g:=Ud p t o;have r:=vf p;obtain⟨n,f⟩: ∃n,n=(dq p).length:=⟨_,rfl⟩
 rw[←f]at g hround r⊢;refine aT.of (F:=Bi) TN (by simp[Bi]) ?_;simp only[Bi];refine aw @wj @g ?_;refine aX.overI (List.range n) (fun k (b:List aa)=>[(7,iN k)]) (fun _ b=>b) (fun _ _=>()) () (fun k b=>S k b) s (by simp;omega) aA aA rfl rfl m (fun k s x hg h a j q e=> ?_) (fun s a q e=> ?_)
 ·rw[dX]at h a;have u:=fun K=>hround k s K h e
  repeat' first|refine ak (fun _=> ?_) fun _=> ?_|(refine aj.yld (u _ (fun c l=> ?_)))|refine bb (ga @a (ga @j (ga @bc (ga @fS (ga @aM @wj))))) trivial ?_|exact ba (ga @a (ga @j (ga @bc (ga @fS (ga @aM @wj))))) trivial|fail
  all_goals first|exact l|trace_state
 ·rw[dX]at e a;refine aw (ga @a @wj) trivial ?_
  all_goals first|exact e|trace_state
def uH(base:Nat)(v:AV)(s:List aa)(b:List ar):Prop:=(v= .nil 33∧b=[])∨ ∃r,base≤r∧v= .tsl r 33 (b.map ab)∧s[r]?=some (.row 60 33 b.length)
def jg(d:Dg)(n:Nat):List ar:=(List.range n).map fun(k:Nat)=>⟨d,(k:Int)⟩
theorem TY(d:Dg)(n:Nat):jg d (n+1)=jg d n++[⟨d,(n:Int)⟩]:=by unfold jg;rw[List.range_succ,eX];rfl
theorem JA(d:Dg)(n:Nat):(jg d n).length=n:=by unfold jg;simp
def j7:CC:=fo [o0 5 (.box (.c (.agg dW))),oN (.st 33 (.t 5) (.t 7))]
def j8:CC:= .block 1 (fo [o0 8 (.ld none (.t 2)),o0 9 (.ld (some 33) (.t 5)),o0 10 (.bsf 33 1 dW [(0,33,(.t 9))]),o0 11 (.app false 60 33 40 (.t 8) (.t 10)),oN (.st 1 (.t 2) (.t 11))])
def Cp(a:List aa)(b i:Nat)(fr:Fr)(d:Dg)(k:Nat)(s:List aa):Prop:=(∀(j:Nat) (o:aa),a[j]?=some o→s[j]?=some o)∧ ∃v,s[b]?=some (.cells [v])∧uH a.length v s (jg d k)∧s[i]?=some (.loop ⟨.ready,none,fr,[7],13,j7,j8⟩)
set_option maxHeartbeats 1000000 in
theorem N8{x:List aa}{b i k:Nat}{fr:Fr}{d:Dg}(hb:x.length≤b)(O:b<i)(D:Bb.look fr 2=some (.ptr b 0))(Q:k≤10000000){s:List aa}(h:Cp x b i fr d k s){K:AV→List aa→Prop}(E: ∀F,Cp x b i fr d (k+1) F→K (.d (dB true)) F):gh Tryz.prog i [.d (.agg (ab ⟨d,(k:Int)⟩))] s K:=by
 obtain⟨u,v,J,L,q⟩:=h;have P:=(aR.1 q).1;unfold gh;rw[q];refine⟨rfl,rfl,?_⟩;simp only[j7,j8,putL,mc,uK]
 repeat' first|simp only[cG,aM,fS]|refine ak (fun _=> ?_) fun _=> ?_|refine bb @wj trivial ?_|exact ba @wj trivial|fail
 unfold jn;rw[bt q];refine⟨rfl,?_⟩;have f:((s++[aa.cells (List.map AV.d (ab ⟨d,(k:Int)⟩))]).set i (.loop ⟨.busy,none,fr,[7],13,j7,j8⟩))[b]?=some (.cells [v]):=getSet (bt J _) a8;have C:((s++[aa.cells (List.map AV.d (ab ⟨d,(k:Int)⟩))]).set i (.loop ⟨.busy,none,fr,[7],13,j7,j8⟩))[s.length]?=some (.cells ((ab ⟨d,(k:Int)⟩).map .d)):=getSet (by simp) a8
 have y:((s++[aa.cells (List.map AV.d (ab ⟨d,(k:Int)⟩))]).set i (.loop ⟨.busy,none,fr,[7],13,j7,j8⟩))[i]?=some (.loop ⟨.busy,none,fr,[7],13,j7,j8⟩):=ed (bt q _)
 have a: ∀(j:Nat) (o:aa),x[j]?=some o→((s++[aa.cells (List.map AV.d (ab ⟨d,(k:Int)⟩))]).set i (.loop ⟨.busy,none,fr,[7],13,j7,j8⟩))[j]?=some o:=fun j o g=>getSet (bt (u j o g) _) (by have:=(aR.1 g).1;omega)
 have G:uH x.length v ((s++[aa.cells (List.map AV.d (ab ⟨d,(k:Int)⟩))]).set i (.loop ⟨.busy,none,fr,[7],13,j7,j8⟩)) (jg d k):=L.imp id fun⟨r,H,I,z⟩=>⟨r,H,I,getSet (bt z _) fun e=>by subst e;rw[q]at z;cases z⟩
 dsimp only;generalize(s++[aa.cells (List.map AV.d (ab ⟨d,(k:Int)⟩))]).set i (.loop ⟨.busy,none,fr,[7],13,j7,j8⟩)=T at f C y G a⊢;have N:=(aR.1 f).1;have A:=JA d k;have c:=TY d k;rcases G with⟨rfl,t⟩|⟨r,hrb0,rfl,l⟩
 ·have n:br 1 40=true:=by decide
  have t0J:=bt f
  repeat' first|simp only[cG,D,f,t0J,C,n,fS,aM]|refine ak (fun _=> ?_) fun _=> ?_|refine bb @wj trivial ?_|exact ba @wj trivial|fail
  unfold jW;have p:((T++[aa.row 60 33 1]).set b (aa.cells [AV.tsl T.length 33 [ab ⟨d,(k:Int)⟩]]))[i]?=some (.loop ⟨.busy,none,fr,[7],13,j7,j8⟩):=getSet (bt y _) a8;rw[p];refine E _ ⟨fun j o g=> ?_,.tsl T.length 33 [ab ⟨d,(k:Int)⟩],?_,.inr ⟨T.length,by omega,by rw[c,t];rfl,?_⟩,ed p⟩
  ·have:=(aR.1 g).1;exact getSet (getSet (bt (a j o g) _) a8) a8
  ·exact getSet (ed (bt f _)) a8
  ·have M:=(aR.1 y).1;rw[c,t];exact getSet (getSet (by simp) a8) a8
 ·have n:br (k+1) 40=true:=room_le a8 a8;rw[A]at l;have B:fc 60 33 k T[r]?=true:=by rw[l];simp[fc]
  have m:r≠b:=fun e=>by subst e;rw[f]at l;cases l
  have t0s: ∀o,(T.set r o)[b]?=some (.cells [.tsl r 33 ((jg d k).map ab)]):=fun o=>getSet f m
  repeat' first|simp only[cG,D,f,t0s,C,A,n,B,l,fS,aM]|refine ak (fun _=> ?_) fun _=> ?_|refine bb @wj trivial ?_|exact ba @wj trivial|fail
  unfold jW;have w:r≠i:=fun e=>by subst e;rw[y]at l;cases l
  have p:((T.set r (aa.row 60 33 (k+1))).set b (aa.cells [AV.tsl r 33 (List.map ab (jg d k)++[ab ⟨d,(k:Int)⟩])]))[i]?=some (.loop ⟨.busy,none,fr,[7],13,j7,j8⟩):=getSet (getSet y w) a8;rw[p];refine E _ ⟨fun j o g=> ?_,.tsl r 33 (List.map ab (jg d k)++[ab ⟨d,(k:Int)⟩]),?_,.inr ⟨r,hrb0,by rw[c];simp,?_⟩,ed p⟩
  ·have:=(aR.1 g).1;exact getSet (getSet (getSet (a j o g) a8) a8) a8
  ·exact getSet (ed (getSet f m)) a8
  ·rw[c,aN,A];exact getSet (getSet (ed l) (Ne.symm m)) (Ne.symm w)
set_option maxHeartbeats 1000000 in
theorem N7(d:Dg)(p:b9)(E:cV p)(D:e8 p)(s:List aa):aT Tryz.prog 89 [.nil 33,.clo 90 [] [.d (.ref (bk p)),.d (.ref (aq d))]] s fun v w=>(∀(j:Nat) (o:aa),s[j]?=some o→w[j]?=some o)∧uH s.length v w (jg d (dq p).length):=by
 have H:=vf p;refine aT.of (F:=yn) Ri (by simp[yn]) ?_;simp only[yn];refine aw @wj trivial ?_;change bR Tryz.prog none (.rng 13 (.t 6) [7] j7 j8) _ _ _;have c:(s++[aa.cells [AV.nil 33]])[s.length]?=some (.cells [.nil 33]):=by simp
 have a: ∀(j:Nat) (o:aa),s[j]?=some o→(s++[aa.cells [AV.nil 33]])[j]?=some o:=fun j o h=>bt h _;obtain⟨b,hb⟩: ∃b,b=s.length:=⟨_,rfl⟩
 rw[←hb]at c⊢;generalize s++[aa.cells [AV.nil 33]]=T at c a⊢;have g:=(aR.1 c).1;rw[Ch]
 refine⟨trivial,_,_,_,rfl,jP.fn (aT.mono (YU d p E D T.length (Cp s b T.length [(6,.clo 90 [] [.d (.ref (bk p)),.d (.ref (aq d))]),(4,.nil 33),(2,.ptr b 0)] d) (fun k I K G h C=>N8 a8 g rfl a8 h C) _ ⟨fun j o h=>bt (a j o h) _,.nil 33,bt c _,.inl ⟨rfl,rfl⟩,by simp⟩) ?_)⟩;rintro _ l ⟨_,z,v,A,B,m⟩;unfold kH;rw[m];refine⟨by simp,?_⟩
 have n:=getSet (o':= .loop ⟨.exhausted,none,[(6,.clo 90 [] [.d (.ref (bk p)),.d (.ref (aq d))]),(4,.nil 33),(2,.ptr b 0)],[7],13,j7,j8⟩) A (show T.length≠b by omega)
 have q:uH s.length v (l.set T.length (.loop ⟨.exhausted,none,[(6,.clo 90 [] [.d (.ref (bk p)),.d (.ref (aq d))]),(4,.nil 33),(2,.ptr b 0)],[7],13,j7,j8⟩)) (jg d (dq p).length):=B.imp id fun⟨r,x,y,f⟩=>⟨r,x,y,getSet f fun e=>by subst e;rw[m]at f;cases f⟩
 have u: ∀(j:Nat) (o:aa),s[j]?=some o→(l.set T.length (.loop ⟨.exhausted,none,[(6,.clo 90 [] [.d (.ref (bk p)),.d (.ref (aq d))]),(4,.nil 33),(2,.ptr b 0)],[7],13,j7,j8⟩))[j]?=some o:=fun j o h=>getSet (z j o h) (by have:=(aR.1 h).1;omega);dsimp only;rw[hb]at*
 generalize l.set T.length (.loop ⟨.exhausted,none,[(6,.clo 90 [] [.d (.ref (bk p)),.d (.ref (aq d))]),(4,.nil 33),(2,.ptr s.length 0)],[7],13,j7,j8⟩)=s4 at n q u⊢;have i:=iH Tryz.prog v;refine aw (ga @n (ga @i @wj)) trivial ?_
 all_goals first|exact⟨u,q⟩|trace_state
theorem O0(d:Dg)(p:b9)(h:cV p)(g:e8 p)(s:List aa):aT Tryz.prog 57 [.clo 90 [] [.d (.ref (bk p)),.d (.ref (aq d))]] s fun v b=>(∀(j:Nat) (o:aa),s[j]?=some o→b[j]?=some o)∧uH s.length v b (jg d (dq p).length):=by
 have c:=N7 d p h g s;refine aT.of (F:=yw) Rp (by simp[yw]) ?_;simp only[yw]
 repeat' first|refine ak (fun _=> ?_) fun _=> ?_|(refine aj.fn (c.mono ?_);rintro v b ⟨e,f⟩)|refine bb @wj trivial ?_|exact ba @wj trivial|fail
 have a:=iH Tryz.prog v;refine aw (ga @a @wj) trivial ?_
 all_goals first|exact⟨e,f⟩|trace_state
def oY(d:Dg)(n:Nat)(m:Meta):b9:={b9.zero with author:=m.author,message:=m.message,time:=m.time,changes:=[{af.zero with kind:=7,over:=jg d n}]}
def BU(l:aP)(d:Dg)(m:Meta):b9×Int:=match bM l d with
 |none=>(.zero,7)
 |some p=>if 400<(dq p).length then(.zero,4)else if iD (oY d (dq p).length m)≠0 then(.zero,iD (oY d (dq p).length m))else(oY d (dq p).length m,0)
theorem Ph{l:aP}{d:Dg}{p:b9}(h:bM l d=some p): ∃x∈l,x.pat=p:=by
 induction l with
 |nil=>cases h
 |cons y l c=>
  rw[bM]at h;by_cases e:y.id=d
  ·rw[if_pos e]at h;exact⟨y,by simp,az h⟩
  ·rw[if_neg e]at h;obtain⟨x,b,a⟩:=c h;exact⟨x,by simp[b],a⟩
set_option maxHeartbeats 2000000 in
theorem YT(l:aP)(P:l.length≤1000)(N: ∀x∈l,cV x.pat∧e8 x.pat)(d:Dg)(m:Meta)(j: ∀p,bM l d=some p→(dq p).length≤400→cV (oY d (dq p).length m)∧e8 (oY d (dq p).length m)):aE Tryz.prog 24 [.sl 37 (l.map b8),.agg (aq d),.agg (er m)] (.tup [.agg (bk (BU l d m).1),dI (BU l d m).2]):=by
 have e:=Bx l a8 d;unfold BU;cases hg:bM l d with
 |none=>
  rw[hg]at e;refine aI (F:=s6) Jw (by simp[s6]) ?_;simp only[s6];exact bx (ga @bc (ga @c9 (ga @ew (ga @wP (ga @kq @wj))))) @e
  all_goals first|rfl|trace_state
 |some p=>
  rw[hg]at e;obtain⟨x,O,y⟩:=Ph hg;have u:=N x O;rw[y]at u;have k:=fun s=>YV d p s;have q:=fun s=>O0 d p u.1 u.2 s;have M:=vf p;have j:=j p hg;dsimp only;obtain⟨n,w⟩: ∃n,n=(dq p).length:=⟨_,rfl⟩
  rw[←w]at q M j⊢;have a:=JA d n;refine ph (F:=s6) Jw (by simp[s6]) ?_;simp only[s6];refine AC.seq (bL ?_);refine aw (ga @kq @wj) trivial ?_;refine AC.seq (bL ?_);refine aw (ga @bc (ga @c9 (ga @ew (ga @kq @wj)))) @e ?_;refine AC.seq (bL ?_);refine aw @wj trivial ?_
  refine AC.seq (bL ?_)
  repeat' first|refine ak (fun _=> ?_) fun _=> ?_|(refine aj.fn ((q _).mono ?_);rintro v K ⟨z,A⟩)|refine bb (ga @bc (ga @c9 @wj)) @k ?_|exact ba (ga @bc (ga @c9 @wj)) @k|fail
  have g:=iH Tryz.prog v;refine aw (ga @g @wj) trivial ?_;have c:=z 0 _ rfl;have D:v.toD=some (.sl 33 ((jg d n).map ab)):=by
   rcases A with⟨rfl,B⟩|⟨r,_,rfl,B⟩
   ·rw[B];rfl
   ·rfl
  refine AC.toD1 10 [(5,.d (.ref (er m))),(6,.ptr 0 0)] rfl D ⟨rfl,rfl,trivial⟩ (bL ?_);clear z A e k q D g;have b: ∀o,(K.set 0 o)[0]?=some o:=fun o=>ed c;have hs0J: ∀o J,((K++J).set 0 o)[0]?=some o:=fun o J=>ed (bt c J);have q0J:=bt c;by_cases C:400<n
  ·rw[if_pos C];have h:decide ((n:Int)>400)=true:=by simp;omega
   exact bx (ga @c (ga @b (ga @a (ga @h (ga @bc (ga @c9 (ga @ew (ga @wP (ga @kq @wj))))))))) trivial
   all_goals first|rfl|trace_state
  ·rw[if_neg C];have h:decide ((n:Int)>400)=false:=by simp;omega
   have f:=j a8;have t:=JH (oY d n m) f.1 f.2;have E:aV l9 0 1 [.d (.sc (.string m.author))]=some ((bk {b9.zero with author:=m.author}).map .d):=rfl;have G:aV ((bk {b9.zero with author:=m.author}).map .d) 1 1 [.d (.sc (.string m.message))]=some ((bk {b9.zero with author:=m.author,message:=m.message}).map .d):=rfl
   have H:aV ((bk {b9.zero with author:=m.author,message:=m.message}).map .d) 2 1 [.d (.sc (.int .i64 m.time))]=some ((bk {b9.zero with author:=m.author,message:=m.message,time:=m.time}).map .d):=rfl
   have I:aV ((bk {b9.zero with author:=m.author,message:=m.message,time:=m.time}).map .d) 4 1 [.d (.sl 139 [aQ {af.zero with kind:=7,over:=jg d n}])]=some ((bk (oY d n m)).map .d):=rfl;by_cases i:iD (oY d n m)=0
   ·rw[if_neg (by simpa using i)];rw[i]at t;exact bx (ga @E (ga @G (ga @H (ga @I (ga @c (ga @q0J (ga @b (ga @hs0J (ga @a (ga @h (ga @bc (ga @c9 (ga @dN (ga @ew (ga @wP (ga @kq @wj)))))))))))))))) @t
   ·rw[if_pos i];have L:(iD (oY d n m) !=0)=true:=by simpa using i
    exact bx (ga @E (ga @G (ga @H (ga @I (ga @c (ga @q0J (ga @b (ga @hs0J (ga @a (ga @h (ga @L (ga @bc (ga @c9 (ga @dN (ga @ew (ga @wP (ga @kq @wj))))))))))))))))) @t
def qF:List ar→Bool
 |x::y::r=>fP x y&&qF (y::r)
 |_=>true
theorem PZ{a b c:ar}(f:fP a b=true)(g:fP b c=true):fP a c=true:=by
 unfold fP at*;simp only[decide_eq_true_eq]at*;by_cases d:en a b=0
 ·rw[(vu a b).1 d];exact g
 ·by_cases e:en b c=0
  ·rw[←(vu b c).1 e];exact f
  ·have:=yj (a:=a) (b:=b) (c:=c) a8 a8;omega
theorem Lm: ∀{l:List ar},qF l=true→l.Pairwise (fun a b=>fP a b=true)
 |[],_=> .nil
 |[x],_=>by simp
 |x::y::r,h=>by
  rw[qF,eI]at h;have d:=Lm h.2;refine mQ.2 ⟨fun z c=> ?_,d⟩;rcases bY.1 c with rfl|c
  ·exact h.1
  ·exact PZ h.1 ((mQ.1 d).1 z c)
theorem Yr{l:List ar}(h:qF l=true):l.mergeSort fP=l:=List.mergeSort_of_pairwise (Lm h)
def vp(d:Dg)(x:aJ):aJ:={jA d x with over:=x.over.map (whole · d)}
theorem xk{p:b9}{d:Dg}(hi:dh bE p=(d,0))(a:((dq p).all fun x=>qF (x.over.map (whole · d)))=true):(ft p).1=(dq p).map (vp d):=by
 unfold ft;rw[hi,if_neg (by simp)];show(dq p).map (nh d)=_;refine List.map_congr_left fun x b=> ?_;have h:=iA.1 a x b;unfold nh vp;rw[Yr h]
set_option maxRecDepth 100000 in
theorem Ps:dh bE fa=(dP,0):=by kernel_rfl
set_option maxRecDepth 100000 in
theorem cq:dh bE (jc dP)=(dQ,0):=by kernel_rfl
set_option maxRecDepth 100000 in
theorem Pt:dh bE kh=(dR,0):=by kernel_rfl
set_option maxRecDepth 100000 in
theorem Yn:((dq fa).all fun x=>qF (x.over.map (whole · dP)))=true:=by kernel_rfl
set_option maxRecDepth 100000 in
theorem Lk:((dq (jc dP)).all fun x=>qF (x.over.map (whole · dQ)))=true:=by kernel_rfl
set_option maxRecDepth 100000 in
theorem Yo:((dq kh).all fun x=>qF (x.over.map (whole · dR)))=true:=by kernel_rfl
set_option maxRecDepth 100000 in
theorem OF:BU gN dP ⟨xZ,⟨#[]⟩,3⟩=(kh,0):=by kernel_rfl
set_option maxRecDepth 100000 in
theorem OC:jG fj fj.length []=[dP,dQ,dR]:=by kernel_rfl
set_option maxRecDepth 100000 in
theorem Hk:((dq kh).map (vp dR)).reverse++(((dq (jc dP)).map (vp dQ)).reverse++((dq fa).map (vp dP)).reverse)=kW fj:=by
 have a:bM fj dP=some fa:=by rfl
 have b:bM fj dQ=some (jc dP):=by rfl
 have gR:bM fj dR=some kh:=by rfl
 unfold kW;rw[OC];simp only[List.reverse_cons,List.reverse_nil,bn,ma,nU,List.flatMap_nil,bg];unfold kx;rw[a,b,gR];simp only[ic];rw[xk Ps Yn,xk cq Lk,xk Pt Yo]
set_option maxRecDepth 100000 in
theorem Ox:tg fj ⟨dQ,0⟩=true:=by
 have c:bM fj dQ=some (jc dP):=by rfl
 have a:(oF fj ⟨dQ,0⟩).isSome=true:=by
  unfold oF;rw[show bM fj (⟨dQ,0⟩:ar).p=some (jc dP)from c];show((ft (jc dP)).1.find? _).isSome=true;rw[xk cq Lk];kernel_rfl
 have b:oM (oK fj).2 ⟨dQ,0⟩=[]:=by
  unfold oK;rw[←Hk];kernel_rfl
 unfold tg;rw[a,b];rfl
set_option maxRecDepth 100000 in
theorem OB:tg fj ⟨dP,0⟩=false:=by
 have a:(oM (oK fj).2 ⟨dP,0⟩).length=1:=by
  unfold oK;rw[←Hk];kernel_rfl
 unfold tg;have:oM (oK fj).2 ⟨dP,0⟩≠[]:=fun h=>by rw[h]at a;cases a
 simp[this]
def Lj(c:af):Bool:=decide (c.name.size≤100)&&(decide (c.data.size≤100)&&(decide (c.lines.length≤100)&&(decide (c.over.length≤40)&&c.lines.all fun s=>decide (s.size≤100))))
def wA(p:b9):Bool:=decide (p.author.size≤100)&&(decide (p.message.size≤100)&&(decide (p.deps.length≤20)&&(decide (p.changes.length≤20)&&(p.changes.all Lj&& !kT p))))
theorem Fg{p:b9}(h:wA p=true):(cV p∧e8 p)∧pn p.changes:=by
 have hm:(1000:Nat)≤maxLen:=by unfold maxLen;omega
 simp only[wA,eI,decide_eq_true_eq,iA,uD]at h;obtain⟨g,i,j,k,d,b⟩:=h;have hc: ∀c∈p.changes,wT c:=fun c hc=>by
  have:=d c hc;simp only[Lj,eI,decide_eq_true_eq,iA]at this;obtain⟨l,m,n,o,f⟩:=this;exact⟨by omega,by omega,by omega,fun s e=>by have:=f s e;omega,by omega⟩
 have a:oq p:=⟨by omega,by omega,by omega,by omega,hc⟩
 exact⟨⟨Cx a b,FP b⟩,FM a⟩
set_option maxRecDepth 100000 in
theorem Yk:wA fa=true:=by kernel_rfl
set_option maxRecDepth 100000 in
theorem Yl:wA (jc dP)=true:=by kernel_rfl
set_option maxRecDepth 100000 in
theorem Ym:wA kh=true:=by kernel_rfl
set_option maxRecDepth 100000 in
theorem OJ:mZ bE gN=0:=by kernel_rfl
set_option maxRecDepth 100000 in
theorem Iv:(bB fa).length≤100000:=by
 have:(bB fa).length=0:=by kernel_rfl
 omega
set_option maxRecDepth 100000 in
theorem Iw:(bB (jc dP)).length≤100000:=by
 have:(bB (jc dP)).length=1:=by kernel_rfl
 omega
set_option maxRecDepth 100000 in
theorem Qn:(bB kh).length≤100000:=by
 have:(bB kh).length=1:=by kernel_rfl
 omega
theorem PV(a:aZ)(n:Int):aE Tryz.prog 25 [dS a,dI n] (.agg (er ⟨a,⟨#[]⟩,n⟩)):=by
 refine aI (F:=yP) RI (by simp[yP]) ?_;simp only[yP];have c:aV [AV.d (D.sc (Value.string ⟨#[]⟩)),AV.d (D.sc (Value.string ⟨#[]⟩)),AV.d (D.sc (Value.int IntKind.i64 0))] 0 1 [AV.d (D.sc (Value.string a))]=some ((er ⟨a,⟨#[]⟩,0⟩).map .d):=rfl
 have e:aV ((er ⟨a,⟨#[]⟩,0⟩).map .d) 2 1 [AV.d (D.sc (Value.int IntKind.i64 n))]=some ((er ⟨a,⟨#[]⟩,n⟩).map .d):=rfl;have f:aV [AV.d (D.sc (Value.string ⟨#[]⟩)),AV.d (D.sc (Value.string ⟨#[]⟩)),AV.d (D.sc (Value.int IntKind.i64 0))] 0 3 ((er ⟨a,⟨#[]⟩,n⟩).map .d)=some ((er ⟨a,⟨#[]⟩,n⟩).map .d):=rfl;have b:(er ⟨a,⟨#[]⟩,n⟩).take 3=er ⟨a,⟨#[]⟩,n⟩:=EE _
 exact bx (ga @c (ga @e (ga @f (ga @b (ga @kq @wj))))) trivial
 all_goals first|rfl|trace_state
set_option maxRecDepth 100000 in
theorem Ov:(dq fa).length=5:=by kernel_rfl
theorem OI:(bA fj).Nodup:=by
 have h:decide ((bA fj).Nodup)=true:=by kernel_rfl
 exact of_decide_eq_true h
end Go.Proofs.Q
