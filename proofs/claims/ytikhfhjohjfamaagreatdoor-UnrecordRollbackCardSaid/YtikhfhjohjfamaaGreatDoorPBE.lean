/- Lemmas. -/
import Derived.Test.YtikhfhjohjfamaaGreatDoorPAV
import Derived.Test.YtikhfhjohjfamaaGreatDoorPBA
set_option linter.unusedVariables false
set_option linter.unusedSimpArgs false
set_option maxRecDepth 100000
namespace Go.Bb
open Go Go.Ab
theorem AC.cutA{P:Program}{N:Nat}{rd:Option Nat}{a b:CC}{Q:Exit->Fr->List aa->Prop}{fr:Fr}{s:List aa}(keep:List Nat)(fr0:Fr)(p:List aa->Prop)
  (ha:AC P N rd a (gg (λfr' c=>jJ keep fr0 fr'/\p c) Q) fr s) (hb: ∀c,p c->AC P N rd b Q (eQ keep fr0) c):AC P N rd (.seq a b) Q fr s:=by
 refine AC.seq (ha.mono λe fr' c h=> ?_);cases e with
 |normal=>
  obtain⟨d,f⟩:=h;exact(hb _ f).frame d.sub
 |_=>exact h
end Go.Bb
namespace Go.Proofs.Q
open Go Go.Bb Go.RowKit Go.Proofs.Lg
open Go.Ab (D RD)
theorem AC.freeze0{P:Program}{N:Nat}{cc:CC}{Q:Exit->Fr->List aa->Prop}{fr fr':Fr}{s:List aa}{i:Nat}{ds:List D}(K:s[i]?=some (.cells (ds.map .d)))
  (E: ∀t x,Bb.look fr' t=some x->Bb.look fr t=some x\/(Bb.look fr t=some (.ptr i 0)/\x= .d (.ref ds))) (h:AC P N none cc Q fr' (s.set i .junk)):AC P N none cc Q fr s:=by
 obtain⟨e,z,Z,U,V⟩:=h;refine⟨e,z,Z,U,λc hc B k a w r h0 L J f=> ?_⟩;obtain⟨b,t,us,hb,X,p,M⟩:=f.cells K;have hm:Mono k w ⟨dE k.I b us.length,k.own⟩ w:=⟨λq o u g C=>by
  refine⟨?_,C⟩;show o<dE k.I b us.length q;by_cases e:q=b
  .subst e;rw[M]at g;omega
  .rw[ix _ _ e];exact g,λid o g=>⟨o,g,dM.refl o⟩⟩
 have O:=(f.lies i _ b hb rfl).1;have Y:Ext B k w ⟨dE k.I b us.length,k.own⟩ w:=⟨hm,Below.refl _ _,λq n=>ix _ _ a8,λ_ _ _=>rfl,λid o q g l _=>⟨o,g,l⟩⟩
 have F:St (dH P) B ⟨dE k.I b us.length,k.own⟩ (s.set i .junk) w:=by
  refine⟨f.base,by simp[f.len],λid x o m g=> ?_,f.lies,f.apart,f.glob⟩;by_cases e:id=i
  .subst e;rw[ej (aV.1 K).1]at m;obtain rfl:=aJ m;cases o<;>trivial
  .rw[bC (Ne.symm e)]at m;refine(f.obj id x o m g).same hm λq l=>⟨rfl,ix _ _ ?_⟩
   intro H;rw[H]at l;exact f.apart id i o _ b e g hb l rfl
 have S:FR ⟨dE k.I b us.length,k.own⟩ w a fr':=λt x G=>by
  rcases E t x G with h4|⟨h4,rfl⟩
  .exact(J t x h4).mono hm
  .obtain⟨q,n,W⟩:=(J t _ h4).ptr_inv;rw[hb]at n;cases n;rw[W];have v:=p.mono hm;refine .d (.ref b 0 us ds (by simpa using p.1) p.2.1 (λj u y=>⟨?_,?_⟩) λj u d y R=> ?_)
   .show 0+j<dE k.I b us.length b;rw[gE];have:=(aV.1 y).1;omega
   .rw[aw];simp[World.cell?,X,y]
   .exact(v.2.2 j u (.d d) y (by rw[dj,R];rfl)).d_inv
 have A:qT ⟨dE k.I b us.length,k.own⟩ none r:=by cases r<;>exact h0
 exact wpIn_mono (V c hc B _ a w r A L S F) λH a2 w2 T=>T.trans (Marks.refl _ _ _ _) Y
theorem AC.freeze1{P:Program}{N:Nat}{cc:CC}{Q:Exit->Fr->List aa->Prop}{fr:Fr}{s:List aa}{i:Nat}(ds:List D)(n:Nat)(rest:Fr)(c:s[i]?=some (.cells (ds.map .d)))(f:Bb.look fr n=some (.ptr i 0))(b:lz rest fr)(h:AC P N none cc Q ((n,.d (.ref ds))::rest) (s.set i .junk)):AC P N none cc Q fr s:=
 AC.freeze0 (fr':=(n,.d (.ref ds))::rest) c (λt x a=>by
  unfold Bb.look at a;split at a
  .rename_i e;subst e;cases a;exact .inr ⟨f,rfl⟩
  .exact .inl (b.sub t x a)) h
abbrev Rw:=ak×FuncId×List AV
def kC(rows:List Rw)(r:Rw):List Rw:=if isZero r.1.p=true then rows else rows++[r]
theorem vH(rows:List Rw)(r:Rw):(kC rows r).length<=rows.length+1:=by unfold kC;split<;>simp
def nv(c:az)(id:Dg):ak:=if isZero c.file.p=true then{c.file with p:=id}else c.file
def mO(c:az):List Rw:=if c.kind≠1/\c.kind≠7 then kC [] (c.file,267,[.d (.ref (aR c))])else[]
def qx(c:az)(r:List Rw):List Rw:=if c.kind=2 then kC r (c.parent,269,[])else r
def qy(c:az)(id:Dg)(x:ak):Rw:=(x,270,[.d (.ref (ae x)),.d (.ref (aR c)),.d (.ref (ae (nv c id)))])
def nE(c:az)(id:Dg)(r:List Rw):List Rw:=if c.kind=5\/c.kind=6 then kC (kC r (qy c id c.after)) (qy c id c.before)else r
def Cu(c:az)(id:Dg)(x:ak):Rw:=(x,272,[.d (.ref [.sc (.int .i64 (mU c.kind))]),.d (.ref (ae (nv c id)))])
def rM(c:az)(id:Dg):List ak->List Rw->List Rw
 |[],r=>r
 |x::l,r=>rM c id l (kC r (Cu c id x))
def po(c:az)(id:Dg):List Rw:=rM c id c.over (nE c id (qx c (mO c)))
def P5(d:AV)(s:List aa)(rows:List Rw):Prop:=(d= .nil 34/\rows=[])\/ ∃r,d= .vec r rows.length 34/\s[r]?=some (.vec 226 34 (rows.flatMap λp=>di p.1 (.clo p.2.1 [] p.2.2)))
set_option maxHeartbeats 4000000 in
theorem V9(id:Dg)(c:az)(W:c.over.length<=100000):bs Tryz.prog 187 [.d (.agg (au id)),.d (.agg (aR c))] [] λd u=>P5 d u (po c id):=by
 refine xz Tryz.f187 ?_ [100002,100003,100054,5,10,9] [[56,3,5,7,54,6,55],[71,10,5,7,69,6,70]];refine AC.cutJ [2,3] [(2,.d (.ref (au id))),(3,.d (.ref (aR c)))] (λs=>s=[]) ?_ λs e=> ?_
 .repeat' first|refine ab (λ_=> ?_) λ_=> ?_|refine aG @wj trivial ?_|exact aF @wj trivial|fail
 subst e;refine AC.cutJ [2,3,5] [(2,.d (.ref (au id))),(3,.d (.ref (aR c))),(5,.ptr 0 0)] (λs=>s=[.cells ((ae c.file).map .d)]) ?_ λs e=> ?_
 .repeat' first|refine ab (λ_=> ?_) λ_=> ?_|refine aG (ga @aN (ga @fe @wj)) trivial ?_|exact aF (ga @aN (ga @fe @wj)) trivial|fail
 subst e;refine AC.cutJ [3,5] [(3,.d (.ref (aR c))),(5,.ptr 0 0)] (λs=>s=[.cells ((ae (nv c id)).map .d)]) ?_ λs e=> ?_
 .unfold nv isZero
  repeat' first|refine ab (λ_=> ?_) λ_=> ?_|refine aG (ga @aN (ga @fe (ga @b9 @wj))) trivial ?_|exact aF (ga @aN (ga @fe (ga @b9 @wj))) trivial|fail
  all_goals simp_all
 subst e;refine AC.freeze1 (i:=0) (ae (nv c id)) 5 [(3,.d (.ref (aR c)))] rfl rfl ⟨rfl,trivial⟩ ?_;obtain⟨F,H⟩: ∃F,F=nv c id:=⟨_,rfl⟩
 rw[<-H];refine AC.cutJ [3,5,6] [(3,.d (.ref (aR c))),(5,.d (.ref (ae F))),(6,.ptr 1 0)] (λs=>s=[.junk,.cells [.nil 34]]) ?_ λs e=> ?_
 .repeat' first|refine ab (λ_=> ?_) λ_=> ?_|refine aG @wj trivial ?_|exact aF @wj trivial|fail
 subst e;refine AC.cutJ [3,5,6,7] [(3,.d (.ref (aR c))),(5,.d (.ref (ae F))),(6,.ptr 1 0),(7,.clo 266 [] [.ptr 1 0])] (λs=>s=[.junk,.cells [.nil 34]]) ?_ λs e=> ?_
 .repeat' first|refine ab (λ_=> ?_) λ_=> ?_|refine aG @wj trivial ?_|exact aF @wj trivial|fail
 subst e;have h0:nT 1 [.junk,.cells [.nil 34]] []:=⟨_,rfl,.inl ⟨rfl,rfl⟩⟩
 generalize[aa.junk,aa.cells [.nil 34]]=s0 at h0⊢;refine AC.cutJ [3,5,6,7] [(3,.d (.ref (aR c))),(5,.d (.ref (ae F))),(6,.ptr 1 0),(7,.clo 266 [] [.ptr 1 0])] (λs=>nT 1 s (mO c)) ?_ λs e=> ?_
 .have a2:=C0 h0 (by simp) c.file 267 [.d (.ref (aR c))];unfold mO
  repeat' first|refine ab (λ_=> ?_) λ_=> ?_|(refine af.fn (a2.mono ?_);rintro _ u ⟨rfl,w⟩)|refine aG @wj trivial ?_|exact aF @wj trivial|fail
  all_goals(clear a2;unfold kC;simp_all)
 have T:(mO c).length<=1:=by unfold mO;split;exact vH _ _;simp
 clear h0;refine AC.cutJ [3,5,6,7] [(3,.d (.ref (aR c))),(5,.d (.ref (ae F))),(6,.ptr 1 0),(7,.clo 266 [] [.ptr 1 0])] (λs=>nT 1 s (qx c (mO c))) ?_ λV m=> ?_
 .have a3:=C0 e a8 c.parent 269 [];unfold qx
  repeat' first|refine ab (λ_=> ?_) λ_=> ?_|(refine af.fn (a3.mono ?_);rintro _ u ⟨rfl,w⟩)|refine aG @wj trivial ?_|exact aF @wj trivial|fail
  all_goals(clear a3;unfold kC;simp_all)
 have I:(qx c (mO c)).length<=2:=by unfold qx;split;have:=vH (mO c) (c.parent,269,[]);omega;omega
 clear e;have y:po c id=rM c id c.over (nE c id (qx c (mO c))):=rfl;rw[y];clear y;generalize qx c (mO c)=j at m I⊢;have N: ∀x,qy c id x=(x,270,[.d (.ref (ae x)),.d (.ref (aR c)),.d (.ref (ae F))]):=λx=>by unfold qy;rw[H]
 refine AC.cutA [3,5,6,7] [(3,.d (.ref (aR c))),(5,.d (.ref (ae F))),(6,.ptr 1 0),(7,.clo 266 [] [.ptr 1 0])] (λs=>nT 1 s (nE c id j)) ?_ λs2 t=> ?_
 .by_cases hk:c.kind=5\/c.kind=6
  .obtain⟨L,E⟩: ∃L,L=[c.after,c.before]:=⟨_,rfl⟩
   have G:nE c id j=L.foldl (λl x=>kC l (qy c id x)) j:=by unfold nE;rw[if_pos hk,E];rfl
   have n:L.length=2:=by rw[E];rfl
   have p:[ae c.after,ae c.before]=L.map ae:=by rw[E];rfl
   refine AC.cutA [49,3,5,6,7] [(49,.d (dB true)),(3,.d (.ref (aR c))),(5,.d (.ref (ae F))),(6,.ptr 1 0),(7,.clo 266 [] [.ptr 1 0])] (λs=>s=V) (bG ?_) λs e=> ?_
   .rcases hk with hk|hk
    .repeat' first|refine ab (λ_=> ?_) λ_=> ?_|refine aG (ga @hk @wj) trivial ?_|exact aF (ga @hk @wj) trivial|fail
    .repeat' first|refine ab (λ_=> ?_) λ_=> ?_|refine aG (ga @hk @wj) trivial ?_|exact aF (ga @hk @wj) trivial|fail
   subst e;refine AC.cond (v:=true) rfl ?_;rw[if_pos rfl];refine AC.seq (bG ?_)
   repeat' first|refine ab (λ_=> ?_) λ_=> ?_|refine aG (ga @aN @wj) trivial ?_|exact aF (ga @aN @wj) trivial|fail
   rw[p];clear E p hk;refine AC.block ?_;refine AC.overI L (λk (b:List Rw×List aa)=>[(56,iN k)]) (λ_ b=>b.2) (λr b=>r.foldl (λl x=>kC l (qy c id x)) b.1) (nE c id j) (λk b=>nT 1 b.2 b.1/\b.1.length<=2+k) (j,s) a8 aA aA rfl G ⟨m,by omega⟩ (λk b x hg Q g C f a=> ?_) (λb g f a=> ?_)
   .obtain⟨l,s⟩:=b;obtain⟨a,q⟩:=a;dsimp only at f a q;rw[n]at g;have g:decide ((k:Int)<2)=true:=g;rw[ig,N]at f;refine AC.seq (bG ?_)
    repeat' first|refine ab (λ_=> ?_) λ_=> ?_|refine aG (ga @g @wj) trivial ?_|exact aF (ga @g @wj) trivial|fail
    refine AC.seq (bG ?_)
    repeat' first|refine ab (λ_=> ?_) λ_=> ?_|refine aG (ga @g @wj) trivial ?_|exact aF (ga @g @wj) trivial|fail
    refine AC.seq (AC.block ?_);refine AC.seq (bG ?_)
    repeat' first|refine ab (λ_=> ?_) λ_=> ?_|refine aG (ga @hg (ga @aN (ga @fe @wj))) trivial ?_|exact aF (ga @hg (ga @aN (ga @fe @wj))) trivial|fail
    refine AC.freeze1 (i:=s.length) (ae x) 9 [(56,iN k),(3,.d (.ref (aR c))),(5,.d (.ref (ae F))),(7,.clo 266 [] [.ptr 1 0]),(54,.d (.sl 33 (L.map ae))),(6,.ptr 1 0),(55,.d (dI 2))] (by simp) rfl ⟨rfl,rfl,rfl,rfl,rfl,rfl,rfl,trivial⟩ (bG ?_);rw[show(s++[aa.cells ((ae x).map .d)]).set s.length .junk=s++[.junk] by simp]
    have a4:=C0 (a.app [.junk]) (show l.length<=1000000 by omega) x 270 [.d (.ref (ae x)),.d (.ref (aR c)),.d (.ref (ae F))];have R:=vH l (x,270,[.d (.ref (ae x)),.d (.ref (aR c)),.d (.ref (ae F))])
    repeat' first|refine ab (λ_=> ?_) λ_=> ?_|(refine af.fn (a4.mono ?_);rintro _ u ⟨rfl,w⟩)|refine aG @wj trivial ?_|exact aF @wj trivial|fail
    refine bG ?_
    repeat' first|refine ab (λ_=> ?_) λ_=> ?_|refine aG (ga @C @wj) trivial ?_|exact aF (ga @C @wj) trivial|fail
    exact⟨(kC l (x,270,[.d (.ref (ae x)),.d (.ref (aR c)),.d (.ref (ae F))]),u),rfl,f,w,by dsimp only;omega⟩
   .obtain⟨l,s⟩:=b;obtain⟨a,q⟩:=a;dsimp only at f a q;rw[tT]at f;have z:decide ((L.length:Int)<2)=false:=by rw[n];rfl
    refine bG ?_
    repeat' first|refine ab (λ_=> ?_) λ_=> ?_|refine aG (ga @z @wj) trivial ?_|exact aF (ga @z @wj) trivial|fail
    all_goals(rw[f];exact a)
  .have K:(c.kind==5)=false:=by simpa using λh=>hk (.inl h)
   have M:(c.kind==6)=false:=by simpa using λh=>hk (.inr h)
   have G:nE c id j=j:=by unfold nE;rw[if_neg hk]
   refine bG ?_
   repeat' first|refine ab (λ_=> ?_) λ_=> ?_|refine aG (ga @K (ga @M @wj)) trivial ?_|exact aF (ga @K (ga @M @wj)) trivial|fail
   all_goals(rw[G];exact m)
 have A:(nE c id j).length<=4:=by
  unfold nE;split
  .have:=vH j (qy c id c.after);have:=vH (kC j (qy c id c.after)) (qy c id c.before);omega
  .omega
 clear m N;generalize nE c id j=L2 at t A⊢;refine AC.cutA [3,5,6,7,10] [(3,.d (.ref (aR c))),(5,.d (.ref (ae F))),(6,.ptr 1 0),(7,.clo 266 [] [.ptr 1 0]),(10,.ptr s2.length 0)] (λs=>s=s2++[.cells [.d (dI (mU c.kind))]]) (bG ?_) λs e=> ?_
 .repeat' first|refine ab (λ_=> ?_) λ_=> ?_|refine aG @wj @Lb ?_|exact aF @wj @Lb|fail
 subst e;refine AC.freeze1 (i:=s2.length) [.sc (.int .i64 (mU c.kind))] 10 [(3,.d (.ref (aR c))),(5,.d (.ref (ae F))),(6,.ptr 1 0),(7,.clo 266 [] [.ptr 1 0])] (by simp) rfl ⟨rfl,rfl,rfl,rfl,trivial⟩ ?_;rw[show(s2++[aa.cells [.d (dI (mU c.kind))]]).set s2.length .junk=s2++[.junk] by simp];have B:=t.app [.junk];generalize s2++[aa.junk]=s3 at B⊢;clear t
 have P: ∀x,Cu c id x=(x,272,[.d (.ref [.sc (.int .i64 (mU c.kind))]),.d (.ref (ae F))]):=λx=>by unfold Cu;rw[H]
 refine AC.cutJ [6] [(6,.ptr 1 0)] (λs=>nT 1 s (rM c id c.over L2)) ?_ λX J=> ?_
 .repeat' first|refine ab (λ_=> ?_) λ_=> ?_|refine aG @wj trivial ?_|exact aF @wj trivial|fail
  refine aZ.overI c.over (λk (b:List Rw×List aa)=>[(71,iN k)]) (λ_ b=>b.2) (λr b=>rM c id r b.1) (rM c id c.over L2) (λk b=>nT 1 b.2 b.1/\b.1.length<=4+k) (L2,s3) a8 aA aA rfl rfl ⟨B,by simpa using A⟩ (λk b x hg hk g C f a=> ?_) (λb g f a=> ?_)
  .obtain⟨l,s⟩:=b;obtain⟨a,q⟩:=a;dsimp only at f a q;rw[rM,P]at f;have a5:=λo=>C0 (a.app [o]) (show l.length<=1000000 by omega) x 272 [.d (.ref [.sc (.int .i64 (mU c.kind))]),.d (.ref (ae F))];have S:=vH l (x,272,[.d (.ref [.sc (.int .i64 (mU c.kind))]),.d (.ref (ae F))])
   repeat' first|refine ab (λ_=> ?_) λ_=> ?_|(refine af.fn ((a5 _).mono ?_);rintro _ u ⟨rfl,w⟩)|refine aG (ga @g (ga @C (ga @hg (ga @aN (ga @fe @wj))))) trivial ?_|exact aF (ga @g (ga @C (ga @hg (ga @aN (ga @fe @wj))))) trivial|fail
   exact⟨(kC l (x,272,[.d (.ref [.sc (.int .i64 (mU c.kind))]),.d (.ref (ae F))]),u),rfl,f,w,by dsimp only;omega⟩
  .obtain⟨l,s⟩:=b;obtain⟨a,q⟩:=a;dsimp only at f a q;rw[rM]at f;rw[f]
   repeat' first|refine ab (λ_=> ?_) λ_=> ?_|refine aG (ga @g @wj) trivial ?_|exact aF (ga @g @wj) trivial|fail
   all_goals exact a
 .obtain⟨v,D,O⟩:=J;refine bG ?_;rcases O with⟨rfl,U⟩|⟨r,rfl,hr⟩
  .repeat' first|refine ab (λ_=> ?_) λ_=> ?_|refine aG (ga @D @wj) trivial ?_|exact aF (ga @D @wj) trivial|fail
   exact .inl ⟨rfl,U⟩
  .repeat' first|refine ab (λ_=> ?_) λ_=> ?_|refine aG (ga @D @wj) trivial ?_|exact aF (ga @D @wj) trivial|fail
   exact .inr ⟨r,rfl,hr⟩
end Go.Proofs.Q
namespace Go.Proofs.Q
open Go Go.Bb Go.RowKit Go.Proofs.Lg
open Go.Ab (D RD)
theorem BL(first n:Nat)(h:first+n<=1000000000):aI Tryz.prog 293 [dI n,.ref [dI first]] (.agg (ae (eM ((first+n:Nat):Int)))):=by
 have a:IntKind.i64.wrap ((first:Int)+(n:Int))=((first+n:Nat):Int):=oC a8 a8;refine aL Tryz.f293 ?_ [300007];refine aC (ga @a (ga @fe (ga @aN @wj))) trivial ?_
 all_goals rfl
theorem OI(P:Program)(l:List CO)(K:Fr->List aa->List Nat->Prop)(a:List Nat)(fr:Fr)(s:List aa)(m t:Nat):dO P l K a fr (some t) m s (.d (.sc .nilFunc))=cW P l K (m::a) ((t,.d (.sc .nilFunc))::fr) s:=propext dK
theorem UI(c:az)(first:Nat)(s:List aa):bs Tryz.prog 235 [.d (.agg (aR c)),.d (dI first)] s λd a=>d= .clo 292 [] [.d (.ref [dI first]),.d (.ref (aR c))]/\a=s:=by
 refine cz Tryz.f235 ?_ [100002,100003];exact bL (ga @OI @wj) trivial
 all_goals first|rfl|exact⟨rfl,rfl⟩
def j9(base:Nat)(s a:List aa):Prop:= ∀j cs,base<=j->s[j]?=some (.cells cs)->a[j]?=some (.cells cs)
set_option maxHeartbeats 4000000 in
theorem UH(c:az)(first i base:Nat)(S:List ay->List aa->Prop)(T:1<=c.kind)(U:c.kind<=7)(hf:first<=1000000)(hl:c.lines.length<=2000)
  (u: ∀l s o,S l s->S l (s++[o])) (F: ∀l s j cs t,S l s->base<=j->s[j]?=some (.cells cs)->S l (s.set j (.cells t))) (p: ∀l s,S l s->base<=s.length)
  (hround: ∀(l:List ay) (x:ay) (s:List aa) (K:AV->List aa->Prop),S l s->l.length<=4001->(∀w,S (l++[x]) w->j9 base s w->K (.d (dB true)) w)->iQ Tryz.prog i [.d (.agg (aO x))] s K)
  (s:List aa) (h0:S [] s):bs Tryz.prog 292 [.yld i,.d (.ref [dI first]),.d (.ref (aR c))] s λd w=>d=vT/\S (fK c first) w:=by
 have m0:=BL first 0 a8;rw[aB]at m0;obtain hk|hk|hk|hk|hk|hk|hk:c.kind=1\/c.kind=2\/c.kind=3\/c.kind=4\/c.kind=6\/c.kind=7\/c.kind=5:=by omega
 iterate 6
  .clear T U hl hf;refine cz Tryz.f292 ?_ [300023,300038,300051,300064,300079,300088,300107,300139] [[95,2,4,0,93,94],[8,118,2,7,4,0,117]]
   repeat' first|refine ab (λ_=> ?_) λ_=> ?_|refine af.yld (hround _ _ _ _ h0 (fG _) (λw G e=> ?_))|refine aG (ga @hk @wj) @m0 ?_|exact aF (ga @hk @wj) @m0|fail
   all_goals(unfold fK;simp only[hk,Int.reduceEq,if_true,if_false];exact G)
 .have X:fK c first=lJ c first c.lines 0++(List.range (c.lines.length+1)).map (ra c first c.lines.length):=by
   simp only[fK,hk,Int.reduceEq,if_false,Ey,aw]
  rw[X];clear X T U;refine cz Tryz.f292 ?_ [300023,300038,300051,300064,300079,300088,300107,300139] [[95,2,4,0,93,94],[8,118,2,7,4,0,117]];refine aC (ga @hk @wj) trivial ?_
  refine aZ.overI c.lines (λk (b:List ay×List aa)=>[(95,iN k)]) (λ_ b=>b.2) (λr b=>b.1++lJ c first r b.1.length) (lJ c first c.lines 0) (λk b=>S b.1 b.2/\b.1.length=k) ([],s) a8 aA aA rfl rfl ⟨h0,rfl⟩ (λk b x hg e n C f a=> ?_) (λb n f a=> ?_)
  .obtain⟨l,s⟩:=b;obtain⟨a,v⟩:=a;dsimp only at f a v;have M:=BL first k a8;clear h0;subst v
   repeat' first|refine ab (λ_=> ?_) λ_=> ?_|refine af.yld (hround l _ _ _ a a8 (λw G e=> ?_))|refine aG (ga @n (ga @C (ga @hg (ga @fA.eq_1 @wj)))) @M ?_|exact aF (ga @n (ga @C (ga @hg (ga @fA.eq_1 @wj)))) @M|fail
   exact⟨(l++[yL c first l.length x],w),rfl,by simpa[lJ]using f,G,by simp⟩
  .obtain⟨l,s⟩:=b;obtain⟨a,v⟩:=a;dsimp only at f a v;simp only[lJ,bq]at f;subst f;have Z:IntKind.i64.wrap ((c.lines.length:Int)+1)=((c.lines.length+1:Nat):Int):=oC a8 a8;refine aC (ga @n (ga @Z (ga @fe (ga @aN @wj)))) trivial ?_;obtain⟨D,B⟩: ∃D,D=s.length:=⟨_,rfl⟩
   have z:base<=D:=by rw[B];exact p _ _ a
   have y:=u _ _ (aa.cells (List.map AV.d (ae c.after))) a;have g:(s++[aa.cells (List.map AV.d (ae c.after))])[D]?=some (.cells ((ae (if 0<0 then eM (first+0-1)else c.after)).map .d)):=by rw[B];simp
   rw[<-B];obtain⟨L,W⟩: ∃L,L=lJ c first c.lines 0:=⟨_,rfl⟩
   rw[<-W]at y v⊢;generalize s++[aa.cells (List.map AV.d (ae c.after))]=s1 at y g⊢;clear a W B h0 Z m0 n
   refine aZ.overI (List.range (c.lines.length+1)) (λk (b:List ay×List aa)=>[(118,iN k)]) (λ_ b=>b.2) (λr b=>b.1++r.map (ra c first c.lines.length)) (L++(List.range (c.lines.length+1)).map (ra c first c.lines.length)) (λk b=>S b.1 b.2/\b.1.length=c.lines.length+k/\(k<=c.lines.length->b.2[D]?=some (.cells ((ae (if 0<k then eM (first+k-1)else c.after)).map .d)))) (L,s1) (by simp;omega) aA (by simp only[dX,wy,qg,aE,simprocAttr,ax,aD,aB,aw];try rfl) rfl rfl ⟨y,by omega,λ_=>g⟩ (λk b x hg e n C f a=> ?_) (λb n f a=> ?_)
   .obtain⟨l,s⟩:=b;obtain⟨a,E,g⟩:=a;dsimp only at f a E g;rw[dX]at e n;have g:=g a8;obtain rfl:k=x:=by rw[qK a8]at hg;simpa using hg
    have P:=BL first (c.lines.length+k) a8;have M:=BL first k a8;have Q:IntKind.i64.wrap ((c.lines.length:Int)+(k:Int))=((c.lines.length+k:Nat):Int):=oC a8 a8
    have V:ra c first c.lines.length k={ay.zero with id:=eM (first+c.lines.length+k),kind:=6,file:=c.file,fro:=(if 0<k then eM (first+k-1)else c.after),til:=(if k<c.lines.length then eM (first+k)else c.before)}:=rfl;rw[bX,V]at f;clear V y;obtain⟨fr,R⟩: ∃fr,fr=(if 0<k then eM (first+k-1)else c.after):=⟨_,rfl⟩
    rw[<-R]at g f;have h8J:=cF g;by_cases A:k<c.lines.length
    .rw[if_pos A]at f;have N:decide ((k:Int)<(c.lines.length:Int))=true:=by simpa using A
     have J:=u _ _ (aa.cells (List.map AV.d (ae (eM ((first+k:Nat):Int))))) a
     repeat' first|refine ab (λ_=> ?_) λ_=> ?_|refine af.yld (hround l _ _ _ J a8 (λw G e=> ?_))|refine aG (ga @n (ga @C (ga @N (ga @Q (ga @g (ga @h8J (ga @fe (ga @aN @wj)))))))) (ga @M @P) ?_|exact aF (ga @n (ga @C (ga @N (ga @Q (ga @g (ga @h8J (ga @fe (ga @aN @wj)))))))) (ga @M @P)|fail
     have H:=e s.length _ (p _ _ a) (List.getElem?_concat_length ..);have q:=e D _ z (h8J _);have Y:=p _ _ a;have m:=λt=>F _ _ D _ t G z q;clear g h8J;have I:(eM (((first+(c.lines.length+k):Nat)):Int))=eM ((first:Int)+(c.lines.length:Int)+(k:Int)):=by unfold eM;congr 1;omega
     have O:=(aV.1 q).1;refine aC (ga @C (ga @H (ga @q (ga @fe (ga @aN @wj))))) trivial ?_;refine⟨(_,_),rfl,?_,m _,by simp;omega,λ_=> ?_⟩
     .simp only[bk,xH];rw[f,I];simp
     .rw[fB,if_pos rfl,if_pos O];rw[if_pos a8];congr 5;omega
    .rw[if_neg A]at f;have N:decide ((k:Int)<(c.lines.length:Int))=false:=by simpa using A
     have J:=u _ _ (aa.cells (List.map AV.d (ae c.before))) a
     repeat' first|refine ab (λ_=> ?_) λ_=> ?_|refine af.yld (hround l _ _ _ J a8 (λw G e=> ?_))|refine aG (ga @n (ga @C (ga @N (ga @Q (ga @g (ga @h8J (ga @fe (ga @aN @wj)))))))) (ga @M @P) ?_|exact aF (ga @n (ga @C (ga @N (ga @Q (ga @g (ga @h8J (ga @fe (ga @aN @wj)))))))) (ga @M @P)|fail
     have H:=e s.length _ (p _ _ a) (List.getElem?_concat_length ..);have q:=e D _ z (h8J _);have m:=λt=>F _ _ D _ t G z q;clear g h8J;have I:(eM (((first+(c.lines.length+k):Nat)):Int))=eM ((first:Int)+(c.lines.length:Int)+(k:Int)):=by unfold eM;congr 1;omega
     refine aC (ga @C (ga @H (ga @q (ga @fe (ga @aN @wj))))) trivial ?_;refine⟨(_,_),rfl,?_,m _,by simp;omega,λh=>by omega⟩;simp only[bk,xH];rw[f,I]
   .obtain⟨l,s⟩:=b;obtain⟨a,E,g⟩:=a;dsimp only at f a;rw[dX]at n;rw[fi,bq]at f;rw[f];refine aC @n trivial ?_
    all_goals exact a
end Go.Proofs.Q
