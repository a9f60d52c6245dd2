/- Lemmas. -/
import Derived.Test.YtikhfhjohjfamaaGreatDoorPAW
import Derived.Test.YtikhfhjohjfamaaGreatDoorPAX
import Derived.Test.YtikhfhjohjfamaaGreatDoorPAV
set_option linter.unusedVariables false
set_option linter.unusedSimpArgs false
set_option maxRecDepth 100000
namespace Go.Proofs.Q
open Go Go.Bb Go.RowKit Go.Proofs.Lg
open Go.Ab (D RD)
theorem Zi{B:Nat}{w:World}(h:GW B w):Lib.TabIs Tryz.prog w "internal/strconv.uint64pow10" .u64 Lib.pow10Tab:=by
 obtain⟨c,t,fz,a⟩:=h (1,(F5.map λz=>Value.int .u64 z).toArray) (by simp[Jq]);have hg:Tryz.prog.globalNamed "internal/strconv.uint64pow10"=some 1:=by kernel_rfl
 have b:F5=Lib.pow10Tab:=by decide
 unfold Lib.TabIs World.var?;rw[hg,eE,a,b]
theorem PL(w:World)(q:Nat)(a:Array Obj):Below w.heap.size w (Go.Sort.grow (w.drewN q) a):=
 ⟨rfl,rfl,rfl,by simp[Go.Sort.grow],λi hi=>by
  show((w.drewN q).heap++a)[i]?=_;rw[D6 (by show i<w.heap.size;omega)];rfl⟩
theorem DU: ∀(f n:Nat),n<10^(f+1)->gB f n=Lib.decDigits n
 |0,n,h=>by
  rw[Lib.decDigits,dif_pos (by simpa using h),gB,nn,xK (by simpa using h)]
 |f+1,n,h=>by
  rw[Lib.decDigits,gB];by_cases a:n<10
  .rw[if_pos a,dif_pos a,nn,xK a]
  .rw[if_neg a,dif_neg a,DU f (n/10) a8];rfl
theorem QR(n:Int)(h0: -1099511627776<=n)(a:n<=1099511627776):dec n=⟨(Lib.itoa n).toArray⟩:=by
 unfold dec Lib.itoa;by_cases h:n<0
 .rw[if_pos h,if_pos h,DU 19 _ a8];have:(-n).toNat=n.natAbs:=by omega
  rw[this];rfl
 .rw[if_neg h,if_neg h,DU 19 _ a8];rfl
theorem Sy:lf:=λn h0 b=>by
 refine⟨Go.Proofs.Lh.enters_fn' Tryz.func131 rfl (by rfl),λI w vs a f d=> ?_⟩
 match vs,a with
 |[u],_=>
  have c:=f 0 u _ rfl rfl;cases c;refine(Tryz.strconv_Itoa n a8 a8 w (Zi d)).mono ?_;rintro e w' ⟨rfl,k,g,rfl⟩;rw[QR n h0 b];exact⟨_,rfl,.sc _,PL _ _ _⟩
theorem indexByte_ge(c:UInt8): ∀l:List UInt8,-1<=Lib.indexByte l c
 |[]=>by rw[Lib.indexByte];omega
 |b::l=>by
  have a:=indexByte_ge c l;rw[Lib.indexByte]
  repeat' split
  all_goals omega
theorem JD(c b:UInt8)(l:List UInt8):decide (Lib.indexByte (b::l) c<0)=(!(b==c)&&decide (Lib.indexByte l c<0)):=by
 have f:=indexByte_ge c l;rw[Lib.indexByte];by_cases h:b=c
 .simp[h]
 .have hb:(b==c)=false:=by simpa using h
  rw[hb];by_cases a:Lib.indexByte l c= -1
  .have:(Lib.indexByte l c== -1)=true:=by simpa using a
   rw[this,a];rfl
  .have:(Lib.indexByte l c== -1)=false:=by simpa using a
   rw[this];have d:decide (Lib.indexByte l c+1<0)=false:=by simp;omega
   have e:decide (Lib.indexByte l c<0)=false:=by simp;omega
   simp only[l7,if_false,d,e,Bool.not_false,Bool.true_and]
theorem Jv(x y:Nat)(f:x<256)(g:y<256): ∀l:List UInt8,hasB l x y=(decide (Lib.indexByte l x.toUInt8<0)&&decide (Lib.indexByte l y.toUInt8<0))
 |[]=>by rw[hasB,Lib.indexByte,Lib.indexByte];rfl
 |c::l=>by
  have a:(c==x.toUInt8)=decide (c.toNat=x):=by
   rw[l6];simp only[beq_iff_eq,decide_eq_true_eq];constructor
   .rintro rfl;simp;omega
   .intro h;rw[<-h];simp
  have b:(c==y.toUInt8)=decide (c.toNat=y):=by
   rw[l6];simp only[beq_iff_eq,decide_eq_true_eq];constructor
   .rintro rfl;simp;omega
   .intro h;rw[<-h];simp
  rw[JD,JD,a,b,hasB,Jv x y f g l];by_cases d:c.toNat=x
  .simp[d]
  .by_cases e:c.toNat=y
   .simp[e]
   .simp[d,e]
theorem MA(s:bb)(c:Nat):aI Tryz.prog 362 [dS s,.sc (.int .u8 c)] (dI (Lib.indexByte s.data.toList (c:Int).toNat.toUInt8)):=by
 refine⟨Go.Proofs.Lh.enters_fn' Tryz.func362 rfl (by rfl),λI w vs a b _=> ?_⟩
 match vs,a with
 |[u,v],_=>
  have d:=b 0 u _ rfl rfl;have f:=b 1 v _ rfl rfl;cases d;cases f;refine(Tryz.strings_IndexByte s c w).mono ?_;rintro e w' ⟨rfl,rfl⟩;exact⟨_,rfl,.sc _,Below.refl _ _⟩
theorem SX(s:bb):aI Tryz.prog 291 [dS s] (dB (mF s)):=by
 have c:=MA s 10;have d:=MA s 0;have e:mF s=(decide ((s.size:Int)<=1000)&&(decide (Lib.indexByte s.data.toList (((10:Nat):Int).toNat.toUInt8)<0)&&decide (Lib.indexByte s.data.toList (((0:Nat):Int).toNat.toUInt8)<0))):=by
  unfold mF clean;rw[Jv 10 0 a8 a8];rfl
 rw[e];clear e;generalize Lib.indexByte s.data.toList (((10:Nat):Int).toNat.toUInt8)=a at*;generalize Lib.indexByte s.data.toList (((0:Nat):Int).toNat.toUInt8)=b at*;refine aL Tryz.f291 ?_
 repeat' first|refine ab (λ_=> ?_) λ_=> ?_|refine aG trivial (ga @c @d) ?_|exact aF trivial (ga @c @d)|fail
 all_goals first|(simp_all;done)|(simp_all;intros;omega)
theorem xN(P:Program)(l:List CO)(K:Fr->List aa->List Nat->Prop)(a:List Nat)(fr:Fr)(s:List aa)(m t:Nat):dO P l K a fr (some t) m s (.d (.sc .nilFunc))=cW P l K (m::a) ((t,.d (.sc .nilFunc))::fr) s:=propext dK
theorem YQ(m:bb)(s:List aa):bs Tryz.prog 259 [.d (dS m)] s λd a=>d= .clo 324 [] [.d (.ref [dS m])]/\a=s:=by
 refine cz Tryz.f259 ?_ [100001];exact bL (ga @xN @wj) trivial
 all_goals first|rfl|exact⟨rfl,rfl⟩
def mS(m:bb)(k:Nat):List Int:=(List.range k).foldl (λh k=>jn h (nh m k)) jO
theorem Gi(m:bb): ∀k,(mS m k).length=8
 |0=>rfl
 |k+1=>by rw[mS,List.range_succ,List.foldl_append,ig,tT,jn,xQ];exact Gi m k
theorem Zb(m:bb)(k:Nat):mS m (k+1)=jn (mS m k) (nh m k):=by
 rw[mS,List.range_succ,List.foldl_append];rfl
def mP:CC:=fo [om 4 12]
def mQ:CC:= .block 1 (fo [o0 13 (.ld (some 8) (.t 3)),om 14 4,o0 15 (.call (.fn 260) [(.t 13),(.t 14)]),oN (.st 8 (.t 3) (.t 15))])
def oO(i:Nat)(fr:Fr)(m:bb)(k:Nat)(s:List aa):Prop:=(s[0]?=some (.cells ((au .zero).map .d))/\s[1]?=some (.cells ((bx .u32 (mS m k)).map .d)))/\s[i]?=some (.loop ⟨.ready,none,fr,[12],38,mP,mQ⟩)
theorem oO.app{i:Nat}{fr:Fr}{m:bb}{k:Nat}{s:List aa}(h:oO i fr m k s)(o:aa):oO i fr m k (s++[o]):=
 ⟨⟨cF h.1.1 _,cF h.1.2 _⟩,cF h.2 _⟩
theorem oO.set{i:Nat}{fr:Fr}{m:bb}{k:Nat}{s:List aa}(h:oO i fr m k s){j:Nat}{e z n d:Nat}(f:i+1<=j)(hc:s[j]?=some (.row e z n)):oO i fr m k (s.set j (.row e z d)):=by
 obtain⟨⟨a,b⟩,c⟩:=h;refine⟨⟨?_,?_⟩,?_⟩
 .rw[bC (by rintro rfl;rw[hc]at a;cases a)];exact a
 .rw[bC (by rintro rfl;rw[hc]at b;cases b)];exact b
 .rw[bC a8];exact c
theorem oO.len{i:Nat}{fr:Fr}{m:bb}{k:Nat}{s:List aa}(h:oO i fr m k s):i+1<=s.length:=(aV.1 h.2).1
theorem PS{m:bb}{k:Nat}(h:k<(j6 m).length/64):(nh m k).size=64:=by
 rw[<-gJ];show(((j6 m).drop (64*k)).take 64).length=64;rw[cC,ax];omega
set_option maxHeartbeats 2000000 in
theorem YK{i:Nat}{fr:Fr}{m:bb}{k:Nat}{s:List aa}(hi:1<i)(f:Bb.look fr 3=some (.ptr 1 0))(h:oO i fr m k s)(hk:k<(j6 m).length/64){K:AV->List aa->Prop}
  (y: ∀n,oO i fr m (k+1) n->(∀j o,i+1<=j->s[j]?=some o->n[j]?=some o)->K (.d (dB true)) n):iQ Tryz.prog i [.d (dS (nh m k))] s K:=by
 have v:=h.len;obtain⟨⟨r,t⟩,e⟩:=h;have cc:=YS (mS m k) (nh m k) (Gi m k) (PS hk);unfold iQ;rw[e];refine⟨rfl,rfl,?_⟩;simp only[mP,mQ,putL,oK,xJ]
 repeat' first|simp only[dt]|refine ab (λ_=> ?_) λ_=> ?_|refine aG @wj trivial ?_|exact aF @wj trivial|fail
 unfold kZ;rw[e];refine⟨rfl,?_⟩;have t0:(s.set i (.loop {({st:= .ready,pend:=none,fr:=fr,ps:=[12],N:=38,ca:=mP,cb:=mQ}:ku)with st:= .busy}))[0]?=some (.cells ((au .zero).map .d)):=by
  rw[bC a8];exact r
 have p:(s.set i (.loop {({st:= .ready,pend:=none,fr:=fr,ps:=[12],N:=38,ca:=mP,cb:=mQ}:ku)with st:= .busy}))[1]?=some (.cells ((bx .u32 (mS m k)).map .d)):=by
  rw[bC a8];exact t
 have q:(s.set i (.loop {({st:= .ready,pend:=none,fr:=fr,ps:=[12],N:=38,ca:=mP,cb:=mQ}:ku)with st:= .busy}))[i]?=some (.loop ⟨.busy,none,fr,[12],38,mP,mQ⟩):=by
  rw[fB,if_pos rfl,if_pos a8]
 have a: ∀j o,i+1<=j->s[j]?=some o->(s.set i (.loop {({st:= .ready,pend:=none,fr:=fr,ps:=[12],N:=38,ca:=mP,cb:=mQ}:ku)with st:= .busy}))[j]?=some o:=λj o u hc=>by
  rw[bC a8];exact hc
 generalize(s.set i (.loop {({st:= .ready,pend:=none,fr:=fr,ps:=[12],N:=38,ca:=mP,cb:=mQ}:ku)with st:= .busy}))=T at t0 p q a⊢;have b:=Gi m k;have w:(bx .u32 (mS m k)).take 8=bx .u32 (mS m k):=dL (by rw[ff,b];decide);have c: ∀vs:List AV,vs.length=8->ba ((bx .u32 (mS m k)).map .d) 0 8 vs=some vs:=λvs h=>mL (k:= .u32) b h
 have l:(jn (mS m k) (nh m k)).length=8:=by rw[jn,xQ];exact b
 clear r t e
 repeat' first|refine ab (λ_=> ?_) λ_=> ?_|refine aH ?_|refine af.data (cc) rfl ?_|simp only[dt,f,p,w,c,l,b,ff,aM,wj,wy,qg,aE,reduceCtorEq,reduceIte,Nat.reduceAdd,Nat.reduceMul,Nat.reduceEqDiff,Nat.reduceLT,Nat.reduceLeDiff,Nat.reduceSub,ax,aD,aB,aw]
 unfold mh;have g:=(aV.1 p).1;have x:(T.set 1 (aa.cells (List.map AV.d (bx .u32 (jn (mS m k) (nh m k))))))[i]?=some (.loop ⟨.busy,none,fr,[12],38,mP,mQ⟩):=by
  rw[bC a8];exact q
 rw[x];refine y _ ⟨⟨?_,?_⟩,?_⟩ λj o u hc=> ?_
 .rw[bC a8,bC a8];exact t0
 .rw[bC a8,ej g,Zb]
 .rw[ej (by simp;exact(aV.1 q).1)]
 .rw[bC a8,bC a8];exact a j o u hc
theorem YJ{fr:Fr}{s:List aa}{m:bb}(hm:m.size<=1000000000)(c:Bb.look fr 3=some (.ptr 1 0))(h0:s[0]?=some (.cells ((au .zero).map .d)))(a:s[1]?=some (.cells ((bx .u32 jO).map .d))):
  mc (dH Tryz.prog) Tryz.prog (.clo 324 [] [.d (.ref [dS m])]) [.yld s.length] (s++[.loop ⟨.ready,none,fr,[12],38,mP,mQ⟩]) λ_ b=>(b[0]?=some (.cells ((au .zero).map .d))/\b[1]?=some (.cells ((bx .u32 (oA m)).map .d)))/\b[s.length]?=some (.loop ⟨.ready,none,fr,[12],38,mP,mQ⟩):=by
 have hi:1<s.length:=(aV.1 a).1;refine mc.fn (bs.mono (YP m hm s.length (s.length+1) (oO s.length fr m) (λk s o h=>h.app o) (λk s j e z n l h i hc=>h.set i hc) (λk s h=>h.len) (λk s K hk h g=>YK hi c h hk g) _ ⟨⟨cF h0 _,cF a _⟩,by simp⟩) ?_);rintro d b ⟨_,a,f⟩;have h:mS m ((j6 m).length/64)=oA m:=(Zh m).symm
 rw[h]at a;exact⟨a,f⟩
theorem YR(v:Int)(k m:Nat)(hm:m<4)(hk:k<8)(H:List Int)(a:at_ H k=v):IntKind.u8.wrap (v.fdiv (2^min (24-8*m) IntKind.u32.bits))=pX H (4*k+m):=by
 rw[pX,show(4*k+m)/4=k by omega,show(4*k+m) % 4=m by omega,a];rfl
theorem QY(H:List Int):nX H=(List.range 8).foldl (λb k=>(List.range 4).foldl (λb m=>b.set (4*k+m) (pX H (4*k+m))) b) (List.replicate 32 0):=by
 have h:List.range 32=(List.range 8).flatMap λk=>(List.range 4).map (4*k+ ·):=by decide
 unfold nX;rw[h,List.foldl_flatMap];simp only[List.foldl_map]
set_option maxHeartbeats 1000000 in
theorem YO(m:bb)(hm:m.size<=1000000000):aI Tryz.prog 180 [dS m] (.agg (au (aq m))):=by
 have hb:=λs=>YQ m s;have A:jO.length=8:=rfl;have a: ∀vs:List AV,vs.length=8->ba ((bx .u32 (List.replicate 8 0)).map .d) 0 8 vs=some vs:=λvs h=>mL (k:= .u32) (by rfl) h;have e:=LP m;obtain⟨H,z⟩: ∃H,H=oA m:=⟨_,rfl⟩
 have f:=N8 m;rw[<-z]at e f;refine aL Tryz.f180 ?_ [] [[11,2,3],[17,5,16,2],[21,5,7,6,17,16,2]]
 repeat' first|refine ab (λ_=> ?_) λ_=> ?_|refine aH ?_|refine af.data (YU) rfl ?_|(refine af.fn ((hb _).mono ?_);rintro _ y ⟨rfl,rfl⟩)|simp only[z8,a,A,ff,aM,wj,wy,qg,aE,reduceCtorEq,reduceIte,Nat.reduceAdd,Nat.reduceMul,Nat.reduceEqDiff,Nat.reduceLT,Nat.reduceLeDiff,Nat.reduceSub,ax,aD,aB,aw]
 refine⟨trivial,_,_,_,rfl,(YJ hm rfl rfl rfl).mono ?_⟩;rintro _ y ⟨⟨h0,F⟩,t⟩;unfold mZ;rw[t];refine⟨by simp,?_⟩
 have h0T:(y.set [aa.cells (List.map AV.d (au Dg.zero)),aa.cells (List.map AV.d (bx IntKind.u32 jO))].length (aa.loop ⟨.exhausted,none,[(11,AV.clo 324 [] [AV.d (D.ref [dS m])]),(2,AV.ptr 0 0),(3,AV.ptr 1 0)],[12],38,mP,mQ⟩))[0]?=some (.cells ((au .zero).map .d)):=by
  rw[bC (by simp)];exact h0
 have h1T:(y.set [aa.cells (List.map AV.d (au Dg.zero)),aa.cells (List.map AV.d (bx IntKind.u32 jO))].length (aa.loop ⟨.exhausted,none,[(11,AV.clo 324 [] [AV.d (D.ref [dS m])]),(2,AV.ptr 0 0),(3,AV.ptr 1 0)],[12],38,mP,mQ⟩))[1]?=some (.cells ((bx .u32 H).map .d)):=by
  rw[bC (by simp),z];exact F
 dsimp only;generalize(y.set [aa.cells (List.map AV.d (au Dg.zero)),aa.cells (List.map AV.d (bx IntKind.u32 jO))].length (aa.loop ⟨.exhausted,none,[(11,AV.clo 324 [] [AV.d (D.ref [dS m])]),(2,AV.ptr 0 0),(3,AV.ptr 1 0)],[12],38,mP,mQ⟩))=T at h0T h1T⊢;have J:(bx .u32 H).take 8=bx .u32 H:=dL (by rw[ff,f];decide);clear h0 F t hb a z;rw[e]
 have h1J:=cF h1T;refine aC (ga @h1T (ga @h1J (ga @J (ga @ff (ga @f @wj))))) trivial ?_;have o:nX H=(List.range 8).foldl (λb k=>(List.range 4).foldl (λb m=>b.set (4*k+m) (pX H (4*k+m))) b) (List.replicate 32 0):=QY H
 refine aZ.overI (List.range 8) (λk (b:List Int)=>[(17,iN k)]) (λk b=>T++[.cells ((bx .u8 b).map .d)]) (λr b=>r.foldl (λb k=>(List.range 4).foldl (λb m=>b.set (4*k+m) (pX H (4*k+m))) b) b) (nX H) (λk b=>b.length=32) (List.replicate 32 0) (by decide) aA aA rfl o (by simp) (λk b x hg hk G L n j=> ?_) (λb G n j=> ?_)
 .rw[dX]at hk;obtain rfl:k=x:=by rw[qK a8]at hg;simpa using hg
  have I:((k:Int)<8)=True:=by simp;omega
  have K:=im (w:=H) (i:=k) a8;rw[ig]at n;clear hg G e o h1J;refine aC (ga @I (ga @K @pk)) trivial ?_
  refine aZ.overI (List.range 4) (λm (b:List Int)=>[(21,iN m)]) (λm b=>T++[.cells ((bx .u8 b).map .d)]) (λr b=>r.foldl (λb m=>b.set (4*k+m) (pX H (4*k+m))) b) ((List.range 4).foldl (λb m=>b.set (4*k+m) (pX H (4*k+m))) b) (λm b=>b.length=32) b (by decide) aA aA rfl rfl j (λm b x hg hm q C c g=> ?_) (λb q c g=> ?_)
  .rw[dX]at hm;obtain rfl:m=x:=by rw[qK a8]at hg;simpa using hg
   have M:IntKind.i64.wrap (4*(k:Int))=((4*k:Nat):Int):=bN a8 a8;have N:IntKind.i64.wrap (((4*k:Nat):Int)+(m:Int))=((4*k+m:Nat):Int):=bN a8 a8;have O:IntKind.i64.wrap (8*(m:Int))=((8*m:Nat):Int):=bN a8 a8;have P:IntKind.i64.wrap (24-((8*m:Nat):Int))=((24-8*m:Nat):Int):=bN a8 a8
   have Q:((0:Int)<=((24-8*m:Nat):Int))=True:=by simp
   have R:(((4*k+m:Nat):Int)<32)=True:=by simp;omega
   have S:((m:Int)<4)=True:=by simp;omega
   have B:=YR (at_ H k) k m a8 a8 H rfl;have u:=λx=>ox (k:= .u8) (l:=b) (i:=4*k+m) a8 x;rw[ig]at c;clear hg q n
   repeat' first|refine ab (λ_=> ?_) λ_=> ?_|refine aH ?_|simp only[I,M,N,O,P,Q,R,S,B,u,C,pk,fY,Int.reduceLE,Int.reduceLT,Int.reduceGE,Int.reduceGT,Int.reduceEq,Int.reduceNe,Int.reduceBEq,Int.reduceBNe,decide_true,decide_false,wj,wy,qg,aE,reduceCtorEq,reduceIte,Nat.reduceAdd,Nat.reduceMul,Nat.reduceEqDiff,Nat.reduceLT,Nat.reduceLeDiff,Nat.reduceSub,ax,aD,aB,aw]
   exact⟨_,rfl,c,by simp[g]⟩
  .rw[tT]at c;refine aC @L trivial ?_;exact⟨b,rfl,by rw[n,c],g⟩
 .have B:nX H=b:=n;have E:(bx .u8 b).take 32=bx .u8 b:=dL (by rw[ff,j];decide);have a: ∀vs:List AV,vs.length=32->ba ((au .zero).map .d) 0 32 vs=some vs:=λvs h=>iE (by rw[aM,b9]) h;have h0J:=cF h0T;have p:=(aV.1 h0T).1
  have v:((T++[aa.cells (List.map AV.d (bx .u8 b))]).set 0 (aa.cells (List.map AV.d (bx .u8 b))))[0]?=some (.cells (List.map AV.d (bx .u8 b))):=ej (by simp)
  repeat' first|refine ab (λ_=> ?_) λ_=> ?_|refine aG (ga @h0T (ga @h0J (ga @p (ga @v (ga @E (ga @a (ga @ff (ga @j @wj)))))))) trivial ?_|exact aF (ga @h0T (ga @h0J (ga @p (ga @v (ga @E (ga @a (ga @ff (ga @j @wj)))))))) trivial|fail
  rw[B]
theorem bD.eq_iff(a b:bD):a=b↔a.id=b.id/\a.pat=b.pat:=by
 cases a;cases b;simp only[bD.mk.injEq]
theorem VV(a b:ar)(h: ∀x∈a,x.pat.changes.length<=9223372036854775807):aI Tryz.prog 39 [.sl 37 (a.map aX),.sl 37 (b.map aX)] (dB (decide (a=b))):=by
 rw[<-Cv];refine aI.big (kM (by kernel_rfl)) 0 rfl λj=> ?_;rw[aM]at j;refine aL Tryz.f39 ?_ [] [[5,1,0]]
 repeat' first|refine ab (λ_=> ?_) λ_=> ?_|refine aG trivial trivial ?_|exact aF trivial trivial|fail
 .all_goals(simp_all[same,cj];try exact ch)
 .rename_i h0;have c:a.length=b.length:=by simp at h0;omega
  refine aZ.over (a.zip b) (λk (_:Unit)=>[(5,iN k)]) (λ_ _=>[]) (λl _=>j8 l) (same a b) () (by simp[c];omega) aA aA rfl (by simp[same,c]) (λk _ x hg hk i g f=> ?_) (λ_ i f=> ?_)
  .obtain⟨d,e⟩:=tN hg;have hk:(k:Int)<(a.length:Int):=by have:=(aV.1 d).1;omega
   have cs:=Fc x.1.pat x.2.pat (h _ (bR d));have m:=bD.eq_iff x.1 x.2;rw[j8]at f
   repeat' first|refine ab (λ_=> ?_) λ_=> ?_|refine aG (ga @d (ga @e (ga @hk @g))) @cs ?_|exact aF (ga @d (ga @e (ga @hk @g))) @cs|fail
   all_goals(clear cs h;simp_all)
  .have hk:((a.zip b).length:Int)=a.length:=by simp[c]
   refine aC @hk trivial ?_
   all_goals(simp_all[j8,cj];try exact ch)
set_option maxHeartbeats 2000000 in
theorem VU(s:ar)(a:Nat)(hm:a<=1000)(w: ∀x∈s,x.pat.changes.length<=9223372036854775807):aI Tryz.prog 123 [.sl 37 (s.map aX),dI a] (dB (wq s a)):=by
 refine aI.big (kM (by kernel_rfl)) 0 rfl λv=> ?_;rw[aM]at v;refine aL Tryz.f123 ?_ [] [[6,0,5,1],[7,6,0,5,1]];refine aC trivial trivial ?_
 refine aZ.overI s (λk (n:Int)=>[(6,iN k),(5,.d (.sc (.int .i64 n)))]) (λ_ _=>[]) (λr n=>sJ a r (s.length-r.length) n) (sJ a s 0 0) (λ_ _=>True) 0 v aA aA rfl (by simp) trivial (λk n x hg hk g z b _=> ?_) (λn g b _=> ?_)
 .have u:s.length-(x::s.drop (k+1)).length=k:=by simp only[aY,ax];omega
  have o:s.length-(s.drop (k+1)).length=k+1:=by simp only[ax];omega
  have m:=VC x.pat (w x (bR hg));have t:=w x (bR hg);rw[u,sJ]at b;by_cases l:k<=a
  .have i:decide ((k:Int)<=(a:Int))=true:=by simp;omega
   rw[if_pos l]at b
   repeat' first|refine ab (λ_=> ?_) λ_=> ?_|refine aG (ga @g (ga @hg @i)) @m ?_|exact aF (ga @g (ga @hg @i)) @m|fail
   .rename_i h;rw[if_pos h]at b;simp[wq,b]
   .rename_i h;rw[if_neg (by simp[h])]at b;clear m h u o i;refine aZ.over x.pat.changes (λj (n:Int)=>[(7,iN j),(5,.d (.sc (.int .i64 n)))]) (λ_ _=>[]) (λr n=>wo r n) (wo x.pat.changes n) n t aA aA rfl rfl (λj n c p A f q e=> ?_) (λn f e=> ?_)
    .rw[wo]at e;clear b;refine aC (ga @f (ga @q (ga @p @hg))) trivial ?_;exact e
    .rw[wo]at e;rw[e]at b;refine aC (ga @f (ga @z @hg)) trivial ?_;have o:s.length-(s.length-(k+1))=k+1:=by omega
     rw[o];exact b
  .have i:decide ((k:Int)<=(a:Int))=false:=by simp;omega
   have y:decide ((s.length:Int)>(a:Int))=true:=by simp;omega
   rw[if_neg l]at b;refine aC (ga @g (ga @hg (ga @i @y))) trivial ?_
   all_goals(simp only[wq,b];simp;omega)
 .rw[sJ]at b
  repeat' first|refine ab (λ_=> ?_) λ_=> ?_|refine aG @g trivial ?_|exact aF @g trivial|fail
  all_goals(simp only[wq,b];simp_all;try omega)
theorem VT(s:ar)(b: ∀x∈s,x.pat.changes.length<=9223372036854775807):aI Tryz.prog 54 [.sl 37 (s.map aX)] (dB (qb s)):=by
 have a:=VU s 8 (by decide) b;refine aL Tryz.f54 ?_
 repeat' first|refine ab (λ_=> ?_) λ_=> ?_|refine aG trivial @a ?_|exact aF trivial @a|fail
 all_goals(rename_i h;rw[qb,h])
theorem VS(s:ar)(f: ∀x∈s,x.pat.changes.length<=9223372036854775807)(h:qb s=false->gh s/\ ∀x∈s,oD x.pat.changes):aI Tryz.prog 14 [.sl 37 (s.map aX)] (dB (o8 aq s)):=by
 have a:=VT s f;unfold o8;by_cases hg:qb s=true
 .rw[hg]at a⊢;refine aL Tryz.f14 ?_;exact bL trivial @a
  all_goals rfl
 .have b:qb s=false:=by simpa using hg
  obtain⟨d,e⟩:=h b;have c:=VQ s d e;rw[b]at a⊢;refine aL Tryz.f14 ?_
  repeat' first|refine ab (λ_=> ?_) λ_=> ?_|refine aG trivial (ga @a @c) ?_|exact aF trivial (ga @a @c)|fail
  all_goals(simp_all)
end Go.Proofs.Q
