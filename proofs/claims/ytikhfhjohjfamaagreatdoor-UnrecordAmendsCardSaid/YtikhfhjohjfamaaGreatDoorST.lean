/- Lemmas. -/
import Derived.Test.YtikhfhjohjfamaaGreatDoorPBN
set_option linter.unusedVariables false
set_option linter.unusedSimpArgs false
set_option maxRecDepth 100000
namespace Go.Proofs.Q
open Go Go.Bb Go.RowKit Go.Proofs.Lg
open Go.Ab (D RD)
theorem ZF(d:Dg)(p:aU)(s:List aa):bs Tryz.prog 93 [.d (.agg (au d)),.d (.agg (br p))] s λv a=>v= .clo 161 [] [.d (.ref (br p)),.d (.ref (au d))]/\a=s:=by
 refine cz Tryz.f93 ?_ [100002,100003];exact bL (ga @xN @wj) trivial
 all_goals first|rfl|exact⟨rfl,rfl⟩
theorem ZE(d:Dg)(p:aU)(hp:bS p)(j:db p)(i:Nat)(S:Nat->List aa->Prop)
  (hround: ∀(k:Nat) (s:List aa) (K:AV->List aa->Prop),k<(dp p).length->S k s->(∀c,S (k+1) c->K (.d (dB true)) c)->iQ Tryz.prog i [.d (.agg (ae ⟨d,k⟩))] s K)
  (s:List aa) (h0:S 0 s):bs Tryz.prog 161 [.yld i,.d (.ref (br p)),.d (.ref (au d))] s λv c=>v=vT/\S (dp p).length c:=by
 have f:=Uy p hp j;have m:=wc p;obtain⟨n,hne⟩: ∃n,n=(dp p).length:=⟨_,rfl⟩
 rw[<-hne]at f hround m⊢;refine cz Tryz.f161 ?_ [300013] [[7,2,0,6]];refine aC @wj @f ?_;refine aZ.overI (List.range n) (λk (b:List aa)=>[(7,iN k)]) (λ_ b=>b) (λ_ _=>()) () (λk b=>S k b) s (by simp;omega) aA aA rfl rfl h0 (λk s x hg hk a g l e=> ?_) (λs a l e=> ?_)
 .rw[dX]at hk a;have o:=λK=>hround k s K hk e
  repeat' first|refine ab (λ_=> ?_) λ_=> ?_|(refine af.yld (o _ (λc h=> ?_)))|refine aG (ga @a (ga @g (ga @b9 (ga @fe (ga @aN @wj))))) trivial ?_|exact aF (ga @a (ga @g (ga @b9 (ga @fe (ga @aN @wj))))) trivial|fail
  all_goals first|exact h|trace_state
 .rw[dX]at e a;refine aC (ga @a @wj) trivial ?_
  all_goals first|exact e|trace_state
def xB(base:Nat)(v:AV)(s:List aa)(b:List ak):Prop:=(v= .nil 33/\b=[])\/ ∃r,base<=r/\v= .tsl r 33 (b.map ae)/\s[r]?=some (.row 32 33 b.length)
def fV(d:Dg)(n:Nat):List ak:=(List.range n).map λ(k:Nat)=>⟨d,(k:Int)⟩
theorem KN(d:Dg)(n:Nat):fV d (n+1)=fV d n++[⟨d,(n:Int)⟩]:=by unfold fV;rw[List.range_succ,fF];rfl
theorem wK(d:Dg)(n:Nat):(fV d n).length=n:=by unfold fV;simp
def kG:CC:=fo [o0 5 (.box (.c (.agg vk))),oN (.st 33 (.t 5) (.t 7))]
def kH:CC:= .block 1 (fo [o0 8 (.ld none (.t 2)),o0 9 (.ld (some 33) (.t 5)),o0 10 (.bsf 33 1 vk [(0,33,(.t 9))]),o0 11 (.app false 32 33 40 (.t 8) (.t 10)),oN (.st 1 (.t 2) (.t 11))])
def D7(a:List aa)(b i:Nat)(fr:Fr)(d:Dg)(k:Nat)(s:List aa):Prop:=(∀(j:Nat) (o:aa),a[j]?=some o->s[j]?=some o)/\ ∃v,s[b]?=some (.cells [v])/\xB a.length v s (fV d k)/\s[i]?=some (.loop ⟨.ready,none,fr,[7],13,kG,kH⟩)
set_option maxHeartbeats 1000000 in
theorem Pr{w:List aa}{b i k:Nat}{fr:Fr}{d:Dg}(hb:w.length<=b)(M:b<i)(C:Bb.look fr 2=some (.ptr b 0))(hk:k<=10000000){s:List aa}(h:D7 w b i fr d k s){K:AV->List aa->Prop}(D: ∀E,D7 w b i fr d (k+1) E->K (.d (dB true)) E):iQ Tryz.prog i [.d (.agg (ae ⟨d,(k:Int)⟩))] s K:=by
 obtain⟨t,v,H,I,p⟩:=h;have N:=(aV.1 p).1;unfold iQ;rw[p];refine⟨rfl,rfl,?_⟩;simp only[kG,kH,putL,oK,xJ]
 repeat' first|simp only[dt,aN,fe]|refine ab (λ_=> ?_) λ_=> ?_|refine aG @wj trivial ?_|exact aF @wj trivial|fail
 unfold kZ;rw[bz p];refine⟨rfl,?_⟩;have t0:((s++[aa.cells (List.map AV.d (ae ⟨d,(k:Int)⟩))]).set i (.loop ⟨.busy,none,fr,[7],13,kG,kH⟩))[b]?=some (.cells [v]):=getSet (bz H _) a8;have B:((s++[aa.cells (List.map AV.d (ae ⟨d,(k:Int)⟩))]).set i (.loop ⟨.busy,none,fr,[7],13,kG,kH⟩))[s.length]?=some (.cells ((ae ⟨d,(k:Int)⟩).map .d)):=getSet (by simp) a8
 have x:((s++[aa.cells (List.map AV.d (ae ⟨d,(k:Int)⟩))]).set i (.loop ⟨.busy,none,fr,[7],13,kG,kH⟩))[i]?=some (.loop ⟨.busy,none,fr,[7],13,kG,kH⟩):=eg (bz p _)
 have a: ∀(j:Nat) (o:aa),w[j]?=some o->((s++[aa.cells (List.map AV.d (ae ⟨d,(k:Int)⟩))]).set i (.loop ⟨.busy,none,fr,[7],13,kG,kH⟩))[j]?=some o:=λj o f=>getSet (bz (t j o f) _) (by have:=(aV.1 f).1;omega)
 have t2:xB w.length v ((s++[aa.cells (List.map AV.d (ae ⟨d,(k:Int)⟩))]).set i (.loop ⟨.busy,none,fr,[7],13,kG,kH⟩)) (fV d k):=I.imp id λ⟨r,F,G,y⟩=>⟨r,F,G,getSet (bz y _) λe=>by subst e;rw[p]at y;cases y⟩
 dsimp only;generalize(s++[aa.cells (List.map AV.d (ae ⟨d,(k:Int)⟩))]).set i (.loop ⟨.busy,none,fr,[7],13,kG,kH⟩)=T at t0 B x t2 a⊢;have L:=(aV.1 t0).1;have z:=wK d k;have c:=KN d k;rcases t2 with⟨rfl,q⟩|⟨r,hrb0,rfl,g⟩
 .have m:bw 1 40=true:=by decide
  have t0J:=bz t0
  repeat' first|simp only[dt,C,t0,t0J,B,m,fe,aN]|refine ab (λ_=> ?_) λ_=> ?_|refine aG @wj trivial ?_|exact aF @wj trivial|fail
  unfold mh;have n:((T++[aa.row 32 33 1]).set b (aa.cells [AV.tsl T.length 33 [ae ⟨d,(k:Int)⟩]]))[i]?=some (.loop ⟨.busy,none,fr,[7],13,kG,kH⟩):=getSet (bz x _) a8;rw[n];refine D _ ⟨λj o f=> ?_,.tsl T.length 33 [ae ⟨d,(k:Int)⟩],?_,.inr ⟨T.length,by omega,by rw[c,q];rfl,?_⟩,eg n⟩
  .have:=(aV.1 f).1;exact getSet (getSet (bz (a j o f) _) a8) a8
  .exact getSet (eg (bz t0 _)) a8
  .have J:=(aV.1 x).1;rw[c,q];exact getSet (getSet (by simp) a8) a8
 .have m:bw (k+1) 40=true:=room_le a8 a8;rw[z]at g;have A:gU 32 33 k T[r]?=true:=by rw[g];simp[gU]
  have l:r≠b:=λe=>by subst e;rw[t0]at g;cases g
  have t0s: ∀o,(T.set r o)[b]?=some (.cells [.tsl r 33 ((fV d k).map ae)]):=λo=>getSet t0 l
  repeat' first|simp only[dt,C,t0,t0s,B,z,m,A,g,fe,aN]|refine ab (λ_=> ?_) λ_=> ?_|refine aG @wj trivial ?_|exact aF @wj trivial|fail
  unfold mh;have u:r≠i:=λe=>by subst e;rw[x]at g;cases g
  have n:((T.set r (aa.row 32 33 (k+1))).set b (aa.cells [AV.tsl r 33 (List.map ae (fV d k)++[ae ⟨d,(k:Int)⟩])]))[i]?=some (.loop ⟨.busy,none,fr,[7],13,kG,kH⟩):=getSet (getSet x u) a8;rw[n];refine D _ ⟨λj o f=> ?_,.tsl r 33 (List.map ae (fV d k)++[ae ⟨d,(k:Int)⟩]),?_,.inr ⟨r,hrb0,by rw[c];simp,?_⟩,eg n⟩
  .have:=(aV.1 f).1;exact getSet (getSet (getSet (a j o f) a8) a8) a8
  .exact getSet (eg (getSet t0 l)) a8
  .rw[c,aQ,z];exact getSet (getSet (eg g) (Ne.symm l)) (Ne.symm u)
set_option maxHeartbeats 1000000 in
theorem Pq(d:Dg)(p:aU)(hp:bS p)(D:db p)(s:List aa):bs Tryz.prog 160 [.nil 33,.clo 161 [] [.d (.ref (br p)),.d (.ref (au d))]] s λv w=>(∀(j:Nat) (o:aa),s[j]?=some o->w[j]?=some o)/\xB s.length v w (fV d (dp p).length):=by
 have E:=wc p;refine cz Tryz.f160 ?_ [100010] [[6,4,2]];refine aC @wj trivial ?_;change cy Tryz.prog none (.rng 13 (.t 6) [7] kG kH) _ _ _;have c:(s++[aa.cells [AV.nil 33]])[s.length]?=some (.cells [.nil 33]):=by simp
 have a: ∀(j:Nat) (o:aa),s[j]?=some o->(s++[aa.cells [AV.nil 33]])[j]?=some o:=λj o h=>bz h _;obtain⟨b,hb⟩: ∃b,b=s.length:=⟨_,rfl⟩
 rw[<-hb]at c⊢;generalize s++[aa.cells [AV.nil 33]]=T at c a⊢;have g:=(aV.1 c).1;rw[CW]
 refine⟨trivial,_,_,_,rfl,mc.fn (bs.mono (ZE d p hp D T.length (D7 s b T.length [(6,.clo 161 [] [.d (.ref (br p)),.d (.ref (au d))]),(4,.nil 33),(2,.ptr b 0)] d) (λk F K hk h C=>Pr a8 g rfl a8 h C) _ ⟨λj o h=>bz (a j o h) _,.nil 33,bz c _,.inl ⟨rfl,rfl⟩,by simp⟩) ?_)⟩;rintro _ l ⟨_,z,v,A,B,m⟩;unfold mZ;rw[m]
 refine⟨by simp,?_⟩;have n:=getSet (o':= .loop ⟨.exhausted,none,[(6,.clo 161 [] [.d (.ref (br p)),.d (.ref (au d))]),(4,.nil 33),(2,.ptr b 0)],[7],13,kG,kH⟩) A (show T.length≠b by omega)
 have q:xB s.length v (l.set T.length (.loop ⟨.exhausted,none,[(6,.clo 161 [] [.d (.ref (br p)),.d (.ref (au d))]),(4,.nil 33),(2,.ptr b 0)],[7],13,kG,kH⟩)) (fV d (dp p).length):=B.imp id λ⟨r,x,y,f⟩=>⟨r,x,y,getSet f λe=>by subst e;rw[m]at f;cases f⟩
 have u: ∀(j:Nat) (o:aa),s[j]?=some o->(l.set T.length (.loop ⟨.exhausted,none,[(6,.clo 161 [] [.d (.ref (br p)),.d (.ref (au d))]),(4,.nil 33),(2,.ptr b 0)],[7],13,kG,kH⟩))[j]?=some o:=λj o h=>getSet (z j o h) (by have:=(aV.1 h).1;omega);dsimp only;rw[hb]at*
 generalize l.set T.length (.loop ⟨.exhausted,none,[(6,.clo 161 [] [.d (.ref (br p)),.d (.ref (au d))]),(4,.nil 33),(2,.ptr s.length 0)],[7],13,kG,kH⟩)=s4 at n q u⊢;have i:=jC Tryz.prog v;refine aC (ga @n (ga @i @wj)) trivial ?_
 all_goals first|exact⟨u,q⟩|trace_state
theorem Qu(d:Dg)(p:aU)(hp:bS p)(g:db p)(s:List aa):bs Tryz.prog 92 [.clo 161 [] [.d (.ref (br p)),.d (.ref (au d))]] s λv b=>(∀(j:Nat) (o:aa),s[j]?=some o->b[j]?=some o)/\xB s.length v b (fV d (dp p).length):=by
 have c:=Pq d p hp g s;refine cz Tryz.f92 ?_
 repeat' first|refine ab (λ_=> ?_) λ_=> ?_|(refine af.fn (c.mono ?_);rintro v b ⟨e,f⟩)|refine aG @wj trivial ?_|exact aF @wj trivial|fail
 have a:=jC Tryz.prog v;refine aC (ga @a @wj) trivial ?_
 all_goals first|exact⟨e,f⟩|trace_state
def lW(d:Dg)(n:Nat)(m:Meta):aU:={aU.zero with author:=m.author,message:=m.message,time:=m.time,changes:=[{az.zero with kind:=7,over:=fV d n}]}
def qv(l:ar)(d:Dg)(m:Meta):aU×Int:=match bh l d with
 |none=>(.zero,7)
 |some p=>if 400<(dp p).length then(.zero,4)else if gj (lW d (dp p).length m)≠0 then(.zero,gj (lW d (dp p).length m))else(lW d (dp p).length m,0)
theorem S0{l:ar}{d:Dg}{p:aU}(h:bh l d=some p): ∃x∈l,x.pat=p:=by
 induction l with
 |nil=>cases h
 |cons y l c=>
  rw[bh]at h;by_cases e:y.id=d
  .rw[if_pos e]at h;exact⟨y,by simp,aJ h⟩
  .rw[if_neg e]at h;obtain⟨x,b,a⟩:=c h;exact⟨x,by simp[b],a⟩
set_option maxHeartbeats 2000000 in
theorem Nv(l:ar)(N:l.length<=1000)(L: ∀x∈l,bS x.pat/\db x.pat)(d:Dg)(m:Meta)(j: ∀p,bh l d=some p->(dp p).length<=400->bS (lW d (dp p).length m)/\db (lW d (dp p).length m)):aI Tryz.prog 34 [.sl 37 (l.map aX),.agg (au d),.agg (eS m)] (.tup [.agg (br (qv l d m).1),dI (qv l d m).2]):=by
 have e:=wO l a8 d;unfold qv;cases hg:bh l d with
 |none=>
  rw[hg]at e;refine aL Tryz.f34 ?_ [100004,100005,300021,300029,300037,100038,300039,300044];exact bL (ga @b9 (ga @bH (ga @dG (ga @zW (ga @iF @wj))))) @e
  all_goals first|rfl|trace_state
 |some p=>
  rw[hg]at e;obtain⟨x,M,w⟩:=S0 hg;have u:=L x M;rw[w]at u;have k:=λs=>ZF d p s;have q:=λs=>Qu d p u.1 u.2 s;have K:=wc p;have j:=j p hg;dsimp only;obtain⟨n,hne⟩: ∃n,n=(dp p).length:=⟨_,rfl⟩
  rw[<-hne]at q K j⊢;have a:=wK d n;refine pB Tryz.f34 ?_ [100004,100005,300021,300029,300037,100038,300039,300044];refine AC.seq (bG ?_);refine aC (ga @iF @wj) trivial ?_;refine AC.seq (bG ?_);refine aC (ga @b9 (ga @bH (ga @dG (ga @iF @wj)))) @e ?_;refine AC.seq (bG ?_);refine aC @wj trivial ?_;refine AC.seq (bG ?_)
  repeat' first|refine ab (λ_=> ?_) λ_=> ?_|(refine af.fn ((q _).mono ?_);rintro v H ⟨y,z⟩)|refine aG (ga @b9 (ga @bH @wj)) @k ?_|exact aF (ga @b9 (ga @bH @wj)) @k|fail
  have g:=jC Tryz.prog v;refine aC (ga @g @wj) trivial ?_;have c:=y 0 _ rfl;have C:v.toD=some (.sl 33 ((fV d n).map ae)):=by
   rcases z with⟨rfl,A⟩|⟨r,_,rfl,A⟩
   .rw[A];rfl
   .rfl
  refine AC.toD1 10 [(5,.d (.ref (eS m))),(6,.ptr 0 0)] rfl C ⟨rfl,rfl,trivial⟩ (bG ?_);clear y z e k q C g;have b: ∀o,(H.set 0 o)[0]?=some o:=λo=>eg c;have hs0J: ∀o J,((H++J).set 0 o)[0]?=some o:=λo J=>eg (bz c J);have q0J:=bz c;by_cases B:400<n
  .rw[if_pos B];have h:decide ((n:Int)>400)=true:=by simp;omega
   exact bL (ga @c (ga @b (ga @a (ga @h (ga @b9 (ga @bH (ga @dG (ga @zW (ga @iF @wj))))))))) trivial
   all_goals first|rfl|trace_state
  .rw[if_neg B];have h:decide ((n:Int)>400)=false:=by simp;omega
   have f:=j a8;have t:=KX (lW d n m) f.1 f.2;have D:ba qD 0 1 [.d (.sc (.string m.author))]=some ((br {aU.zero with author:=m.author}).map .d):=rfl;have E:ba ((br {aU.zero with author:=m.author}).map .d) 1 1 [.d (.sc (.string m.message))]=some ((br {aU.zero with author:=m.author,message:=m.message}).map .d):=rfl
   have F:ba ((br {aU.zero with author:=m.author,message:=m.message}).map .d) 2 1 [.d (.sc (.int .i64 m.time))]=some ((br {aU.zero with author:=m.author,message:=m.message,time:=m.time}).map .d):=rfl
   have G:ba ((br {aU.zero with author:=m.author,message:=m.message,time:=m.time}).map .d) 4 1 [.d (.sl 139 [aR {az.zero with kind:=7,over:=fV d n}])]=some ((br (lW d n m)).map .d):=rfl;by_cases i:gj (lW d n m)=0
   .rw[if_neg (by simpa using i)];rw[i]at t;exact bL (ga @D (ga @E (ga @F (ga @G (ga @c (ga @q0J (ga @b (ga @hs0J (ga @a (ga @h (ga @b9 (ga @bH (ga @dV (ga @dG (ga @zW (ga @iF @wj)))))))))))))))) @t
   .rw[if_pos i];have I:(gj (lW d n m) !=0)=true:=by simpa using i
    exact bL (ga @D (ga @E (ga @F (ga @G (ga @c (ga @q0J (ga @b (ga @hs0J (ga @a (ga @h (ga @I (ga @b9 (ga @bH (ga @dV (ga @dG (ga @zW (ga @iF @wj))))))))))))))))) @t
end Go.Proofs.Q
