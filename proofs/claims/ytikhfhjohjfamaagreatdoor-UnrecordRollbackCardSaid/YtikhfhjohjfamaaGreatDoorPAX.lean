/- Lemmas. -/
import Derived.Test.YtikhfhjohjfamaaGreatDoorPAR
import Derived.Maps.RangeRun
set_option linter.unusedVariables false
set_option linter.unusedSimpArgs false
set_option maxRecDepth 100000
namespace Go.Proofs.Q
open Go Go.Bb Go.RowKit Go.Proofs.Lg
open Go.Ab (D RD)
abbrev rB(x:UInt8):List D:=[.sc (.int .u8 x.toNat)]
theorem Dz: ∀l:List UInt8,iS ((l.map rB).flatten.map .d)=some l
 |[]=>rfl
 |x::l=>by
  have h:=Dz l;have a:=x.toNat_lt;simp only[bX,gG,gb,bt,iS,so,h];rw[if_pos a8];simp
theorem Q0(b:bb):Go.Bb.bytesRow b=b.data.toList.map rB:=rfl
theorem WH{n:Int}(h:0<=n/\n<256):[D.sc (.int .u8 n)]=rB (UInt8.ofNat n.toNat):=by
 simp only[rB];congr 4;have:n.toNat<256:=by omega
 rw[UInt8.toNat_ofNat'];omega
def j6(s:bb):List UInt8:=s.data.toList++[128]++List.replicate ((120-(s.size+1) % 64) % 64) 0++[7,6,5,4,3,2,1,0].map λi=>UInt8.ofNat (nz s i).toNat
theorem O8: ∀n,(pA n).data.toList=List.replicate n 0
 |0=>rfl
 |n+1=>by
  rw[pA,xw,qH,O8 n,List.replicate_succ'];rfl
theorem Jf(s:bb): ∀(l:List Nat) (b:bb),(l.foldl (λout i=>out++ua (nz s i)) b).data.toList=b.data.toList++l.map λi=>UInt8.ofNat (nz s i).toNat
 |[],b=>by simp
 |i::l,b=>by
  rw[ig,Jf s l,xw,qH,bX,bk];rfl
theorem EZ(s:bb):(kT s).data.toList=j6 s:=by
 unfold kT j6;rw[Jf,xw,xw,qH,qH,O8];rfl
theorem KT(s:bb):(j6 s).length=s.size+1+(120-(s.size+1) % 64) % 64+8:=by
 rw[<-EZ,gJ,KU]
theorem KR(s:bb){m:Nat}(h:m<=s.size):(j6 s).drop m=s.data.toList.drop m++[128]++List.replicate ((120-(s.size+1) % 64) % 64) 0++[7,6,5,4,3,2,1,0].map λi=>UInt8.ofNat (nz s i).toNat:=by
 have a:s.data.toList.length=s.size:=gJ s;unfold j6;rw[Dd (by simp;omega),Dd (by simp;omega),Dd a8]
def nh(s:bb)(k:Nat):bb:=⟨(((j6 s).drop (64*k)).take 64).toArray⟩
theorem Du{a b:ByteArray}(h:a.data.toList=b.data.toList):a=b:=by
 cases a;cases b;simp only[ByteArray.mk.injEq];exact Array.toList_inj.1 h
theorem E7(b:ByteArray)(i j:Nat):(b.extract i j).data.toList=(b.data.toList.drop i).take (j-i):=by
 rw[ByteArray.data_extract,Array.toList_extract,List.extract_eq_take_drop]
theorem PR(s:bb)(k:Nat):(kT s).extract (64*k) (64*k+64)=nh s k:=by
 refine Du ?_;rw[E7,EZ,show 64*k+64-64*k=64 by omega];rfl
theorem PT(s:bb){k:Nat}(h:64*k+64<=s.size):s.extract (64*k) (64*k+64)=nh s k:=by
 have a:s.data.toList.length=s.size:=gJ s;refine Du ?_;rw[E7,show 64*k+64-64*k=64 by omega];show _=((j6 s).drop (64*k)).take 64;rw[KR s a8,bk,bk,ij (by simp;omega)]
theorem PQ(s:bb){m k:Nat}(h:64*m<=s.size)(l:List UInt8)(a:l=(j6 s).drop (64*m)):(⟨((l.take (64*k+64)).drop (64*k)).toArray⟩:ByteArray)=nh s (m+k):=by
 refine Du ?_;show(l.take (64*k+64)).drop (64*k)=((j6 s).drop (64*(m+k))).take 64;rw[a,List.drop_take,vo,show 64*k+64-64*k=64 by omega,show 64*m+64*k=64*(m+k) by omega]
theorem Zh(s:bb):oA s=(List.range ((j6 s).length/64)).foldl (λh k=>jn h (nh s k)) jO:=by
 have b:(kT s).size=(j6 s).length:=by rw[<-EZ,gJ]
 have a:(λ(h:List Int) (k:Nat)=>jn h ((kT s).extract (64*k) (64*k+64)))=λh k=>jn h (nh s k):=funext λh=>funext λk=>by rw[PR]
 have h:=N7 s (kT s) rfl;rw[b]at h;rw[h,a]
set_option maxHeartbeats 4000000 in
theorem YP(m:bb)(hm:m.size<=1000000000)(i base:Nat)(S:Nat->List aa->Prop)
  (J: ∀k s o,S k s->S k (s++[o])) (A: ∀k s j e z n n',S k s->base<=j->s[j]?=some (.row e z n)->S k (s.set j (.row e z n'))) (V: ∀k s,S k s->base<=s.length)
  (hround: ∀(k:Nat) (s:List aa) (K:AV->List aa->Prop),k<(j6 m).length/64->S k s->(∀F,S (k+1) F->(∀j o,base<=j->s[j]?=some o->F[j]?=some o)->K (.d (dB true)) F)->iQ Tryz.prog i [.d (dS (nh m k))] s K)
  (s:List aa) (h0:S 0 s):bs Tryz.prog 324 [.yld i,.d (.ref [dS m])] s λd F=>d=vT/\S ((j6 m).length/64) F:=by
 obtain⟨W,hW⟩: ∃W,W=m.size/64:=⟨_,rfl⟩
 have q0:((64:Int)≠0)=True:=by simp
 have q1:IntKind.i64.wrap (Int.tdiv (m.size:Int) 64)=(W:Int):=bN (by rw[Int.tdiv_eq_ediv_of_nonneg a8];omega) a8;have q2:IntKind.i64.wrap ((W:Int)*64)=((64*W:Nat):Int):=bN a8 a8;refine cz Tryz.f324 ?_ [100029,100036,100050,28] [[4,1,0,3],[5,1,0],[6,1,5,0],[7,5,0]];refine aC (ga @q0 (ga @q1 (ga @q2 @wj))) trivial ?_
 refine aZ.overI (List.range W) (λk (b:List aa)=>[(4,iN (64*k))]) (λ_ b=>b) (λ_ _=>()) () (λk b=>S k b) s (by simp;omega) aA aA rfl rfl h0 (λk s x hg hk C hw c a=> ?_) (λs C c a=> ?_)
 .rw[dX]at hk;have g:decide (((64*k:Nat):Int)<((64*W:Nat):Int))=true:=by simp;omega
  have G:IntKind.i64.wrap (((64*k:Nat):Int)+64)=((64*k+64:Nat):Int):=bN a8 a8;have q:(((64*k:Nat):Int)<=((64*k+64:Nat):Int))=True:=by simp;omega
  have H:(((64*k+64:Nat):Int)<=(m.size:Int))=True:=by simp;omega
  have I:=PT m (k:=k) a8;clear h0 q0 q1 q2
  repeat' first|refine ab (λ_=> ?_) λ_=> ?_|refine af.yld (hround k _ _ (by have:=KT m;omega) a (λF h' a3=> ?_))|refine aG (ga @g (ga @G (ga @q (ga @H (ga @I @wj))))) trivial ?_|exact aF (ga @g (ga @G (ga @q (ga @H (ga @I @wj))))) trivial|fail
  exact⟨F,by rw[Nat.mul_add],rfl,h'⟩
 .have g:decide (((64*W:Nat):Int)<((64*W:Nat):Int))=false:=by simp
  have q:(((64*W:Nat):Int)<=(m.size:Int))=True:=by simp;omega
  rw[dX]at a;clear h0;obtain⟨p,P⟩: ∃p,p=m.data.toList.drop (64*W):=⟨_,rfl⟩
  have X:m.data.toList.length=m.size:=gJ m;have hl0l:p.length=m.size-64*W:=by rw[P,ax,X]
  have hb:Go.Bb.bytesRow (m.extract (64*W) m.size)=p.map rB:=by
   rw[Q0,E7,dL (by rw[ax,X];omega),P]
  have Y:(m.extract (64*W) m.size).size=p.length:=by rw[ByteArray.size_extract,hl0l];omega
  have Z:(p.length<=140737488355328)=True:=by simp;omega
  have l:=room_le (n:=p.length+1) (b:=1) a8 a8;have h128:p.map rB++[[D.sc (.int .u8 128)]]=(p++[128]).map rB:=by rw[fF];rfl
  refine aC (ga @g (ga @q (ga @hb (ga @Y (ga @Z (ga @l (ga @h128 @wj))))))) trivial ?_;have N:=J _ _ (aa.row 5 1 (p.length+1)) a;have y:(s++[aa.row 5 1 (p.length+1)])[s.length]?=some (.row 5 1 (p.length+1)):=by simp
  have B:=V _ _ a;obtain⟨j,f⟩: ∃j,j=s.length:=⟨_,rfl⟩
  rw[<-f]at y B⊢;generalize s++[aa.row 5 1 (p.length+1)]=s1 at N y⊢;obtain⟨R,Q⟩: ∃R,R=p++[128]:=⟨_,rfl⟩
  have hl1l:R.length=p.length+1:=by rw[Q];simp
  rw[<-Q];rw[<-hl1l]at y;clear c a hb Y l h128 C g q f J;obtain⟨z,hz⟩: ∃z,z=(120-(m.size+1) % 64) % 64:=⟨_,rfl⟩
  refine aZ.overI (List.replicate z (0:UInt8)) (λk (b:List UInt8×List aa)=>[(5,.tsl j 1 (b.1.map rB))]) (λ_ b=>b.2) (λr b=>b.1++r) (R++List.replicate z 0) (λk b=>S W b.2/\b.2[j]?=some (.row 5 1 b.1.length)/\b.1.length=R.length+k) (R,s1) (by simp;omega) aA aA rfl rfl ⟨N,y,rfl⟩ (λk b x hg hk C hw c a=> ?_) (λb C c a=> ?_)
  .obtain⟨b,s⟩:=b;obtain⟨a,f,t⟩:=a;dsimp only at c a f t;rw[gH]at hk;have hx:x=0:=by rw[pG,if_pos hk]at hg;simpa using hg.symm
   subst hx;have t1:Int.tmod (b.length:Int) 64=((b.length % 64:Nat):Int):=by rw[xC a8];omega
   have t2:(((b.length % 64:Nat):Int) !=56)=true:=by simp;omega
   have l:=room_le (n:=b.length+1) (b:=1) a8 a8;have E:gU 5 1 b.length s[j]?=true:=by rw[f];simp[gU]
   have hn:=A _ _ j _ _ _ (b.length+1) a B f;have O:=(aV.1 f).1;refine aC (ga @q0 (ga @t1 (ga @t2 (ga @l (ga @E @wj))))) trivial ?_;refine⟨(b++[0],s.set j (.row 5 1 (b.length+1))),?_,rfl,?_,hn,?_,?_⟩
   .rw[fF];rfl
   .rw[c,bk];rfl
   .rw[ej O,aQ];rfl
   .simp;omega
  .obtain⟨M,s⟩:=b;obtain⟨a,f,t⟩:=a;dsimp only at c a f t;rw[gH]at t;rw[bq]at c;have t1:Int.tmod (M.length:Int) 64=((M.length % 64:Nat):Int):=by rw[xC a8];omega
   have t2:(((M.length % 64:Nat):Int) !=56)=false:=by simp;omega
   refine aC (ga @q0 (ga @t1 (ga @t2 @wj))) trivial ?_;obtain⟨L,hL⟩: ∃L:List Nat,L=[7,6,5,4,3,2,1,0]:=⟨_,rfl⟩
   have a1:L.length=8:=by rw[hL];rfl
   have a2: ∀k x,L[k]?=some x->x+k=7:=by
    subst hL;intro k x h
    match k,h with
    |0,h|1,h|2,h|3,h|4,h|5,h|6,h|7,h=>simp at h;omega
    |k+8,h=>simp at h
   have w:(j6 m).drop (64*W)=M++L.map λi=>UInt8.ofNat (nz m i).toNat:=by
    rw[KR m a8,<-P,<-Q,<-hz,c,hL]
   have a5:M.length<=1000:=by rw[t,hl1l,hl0l];omega
   clear c N y t1 t2 hL
   refine aZ.overI L (λk (b:List UInt8×List aa)=>[(6,.d (.sc (.int .i64 (56-8*(k:Int))))),(5,.tsl j 1 (b.1.map rB))]) (λ_ b=>b.2) (λr b=>b.1++r.map λi=>UInt8.ofNat (nz m i).toNat) ((j6 m).drop (64*W)) (λk b=>S W b.2/\b.2[j]?=some (.row 5 1 b.1.length)/\b.1.length=M.length+k) (M,s) a8 aA aA rfl w ⟨a,f,rfl⟩ (λk b x hg hk C hw c a=> ?_) (λb C c a=> ?_)
   .obtain⟨b,s⟩:=b;obtain⟨a,f,u⟩:=a;dsimp only at c a f u;have hx:=a2 k x hg;have g:decide (56-8*(k:Int)>=0)=true:=by simp;omega
    have G:((0:Int)<=56-8*(k:Int))=True:=by simp;omega
    have q:(56-8*(k:Int)).toNat=8*x:=by omega
    have H:IntKind.i64.wrap (56-8*(k:Int)-8)=56-8*((k+1:Nat):Int):=by
     simp only[IntKind.wrap,IntKind.bits,IntKind.signed];by_cases h7:k=7
     .subst h7;rfl
     .have:(56-8*(k:Int)-8) % 2^64=56-8*(k:Int)-8:=by omega
      simp only[this];simp;omega
    obtain⟨v,hv⟩: ∃v,v=IntKind.u8.wrap ((IntKind.u64.wrap (IntKind.u64.wrap m.size*8)).fdiv (2^min (8*x) (IntKind.u64.bits))):=⟨_,rfl⟩
    have a0:v=nz m x:=hv;have I:b.map rB++[[D.sc (.int .u8 v)]]=(b++[UInt8.ofNat (nz m x).toNat]).map rB:=by
     rw[fF,WH (by rw[a0];exact zK _),a0];rfl
    have l:=room_le (n:=b.length+1) (b:=1) a8 a8;have E:gU 5 1 b.length s[j]?=true:=by rw[f];simp[gU]
    have hn:=A _ _ j _ _ _ (b.length+1) a B f;have O:=(aV.1 f).1;rw[bX]at c;clear w
    repeat' first|simp only[<-hv]|refine ab (λ_=> ?_) λ_=> ?_|refine aG (ga @g (ga @G (ga @q (ga @H (ga @I (ga @l (ga @E @wj))))))) trivial ?_|exact aF (ga @g (ga @G (ga @q (ga @H (ga @I (ga @l (ga @E @wj))))))) trivial|fail
    refine⟨(_,s.set j (.row 5 1 (b.length+1))),rfl,rfl,?_,hn,?_,?_⟩
    .rw[c,bk];rfl
    .rw[ej O,aQ];rfl
    .simp;omega
   .obtain⟨b,s⟩:=b;obtain⟨a,f,u⟩:=a;dsimp only at c a f u;rw[fi,bq]at c;have g:decide (56-8*((L.length:Nat):Int)>=0)=false:=by rw[a1];decide
    have b1:=KT m;have a7:b.length+64*W=(j6 m).length:=by rw[<-c,ax];omega
    obtain⟨T,a9⟩: ∃T,T=b.length/64:=⟨_,rfl⟩
    have a6:b.length=64*T:=by omega
    have a4:(j6 m).length/64=W+T:=by omega
    clear w f A B;rw[a4];refine aC (ga @g @wj) trivial ?_;refine aZ.overI (List.range T) (λk (b:List aa)=>[(7,iN (64*k))]) (λ_ b=>b) (λ_ _=>()) () (λk b=>S (W+k) b) s (by simp;omega) aA aA rfl rfl a (λk s x hg hk C hw U a=> ?_) (λs C U a=> ?_)
    .rw[dX]at hk;have g:decide (((64*k:Nat):Int)<(b.length:Int))=true:=by simp;omega
     have G:IntKind.i64.wrap (((64*k:Nat):Int)+64)=((64*k+64:Nat):Int):=bN a8 a8;have q:(((64*k:Nat):Int)<=((64*k+64:Nat):Int))=True:=by simp;omega
     have H:(((64*k+64:Nat):Int)<=(b.length:Int))=True:=by simp;omega
     have I:=PQ m (m:=W) (k:=k) a8 b c.symm;clear U hg C hw
     repeat' first|simp only[<-List.map_take,<-List.map_drop]|refine ab (λ_=> ?_) λ_=> ?_|refine af.yld (hround (W+k) _ _ a8 a (λF h' a3=> ?_))|refine aG (ga @g (ga @G (ga @q (ga @H (ga @I (ga @Dz @wj)))))) trivial ?_|exact aF (ga @g (ga @G (ga @q (ga @H (ga @I (ga @Dz @wj)))))) trivial|fail
     exact⟨F,by rw[Nat.mul_add],rfl,h'⟩
    .have g:decide (((64*T:Nat):Int)<(b.length:Int))=false:=by simp;omega
     rw[dX]at a;refine aC (ga @g @wj) trivial ?_
     all_goals exact a
end Go.Proofs.Q
namespace Go.Bb
open Go Go.RowKit Go.Ab Go.Proofs.Lg
open Go.ChangeMaps (setBlock)
section
variable {LL:Nat->Code->CC->Prop} {P:Program} {N:Nat} {rd:Option Nat}
def eG(d:Nat->Code->CC->Prop)(P:Program)(N:Nat)(rd:Option Nat)(c:Code)(fr:Fr)(s:List aa)(Q:Exit->Fr->List aa->Prop):Prop:=
 ∀(B:Nat) (k:aP) (a:Act) (w:World) (r:Option Nat),qT k rd r->a.tmps.size=N->FR k w a fr->St d B k s w->c.wpIn (FW r) 0 P (λb f w'=> ∃fr' e,Q b fr' e/\Ends d N B k a.defers w b fr' e b f w') a w
variable {fr:Fr} {s:List aa} {Q:Exit->Fr->List aa->Prop}
theorem eG.of{c:Code}{e:Exit}{fr':Fr}{d:List aa}(h:jZ LL P N rd c fr s e fr' d)(j:Q e fr' d):eG LL P N rd c fr s Q:=λB k a w r h0 f g i=>
 wpIn_mono (h B k a w r h0 f g i) λl a2 m b=>by
  obtain⟨rfl,b⟩:=b;exact⟨fr',d,j,rfl,b⟩
theorem eG.ofAC{cc:CC}{c:Code}(h:AC P N rd cc Q fr s)(hc:dH P N c cc):eG (dH P) P N rd c fr s Q:=
 let⟨e,fr',d,a,b⟩:=h;eG.of (b c hc) a
theorem eG.mono{c:Code}{b:Exit->Fr->List aa->Prop}(h:eG LL P N rd c fr s Q)(l: ∀e fr s,Q e fr s->b e fr s):eG LL P N rd c fr s b:=λB k a w r h0 d f g=>
 wpIn_mono (h B k a w r h0 d f g) λn a2 o ⟨fr',m,i,j⟩=>⟨fr',m,l _ _ _ i,j⟩
theorem eG.frame{c:Code}{fr0:Fr}(h:eG LL P N rd c fr0 s Q)(f: ∀t x,look fr0 t=some x->look fr t=some x):eG LL P N rd c fr s Q:=λB k a w r h0 b d e=>
 h B k a w r h0 b (λt x g=>d t x (f t x g)) e
theorem eG.seq{x y:Code}(h:eG LL P N rd x fr s (gg (λb f=>eG LL P N rd y b f Q) Q)):eG LL P N rd (.seq x y) fr s Q:=λB k a w r h0 m n o=>by
 refine wpIn_seq (wpIn_mono (h B k a w r h0 m n o) ?_);rintro e l A ⟨b,f,i,g⟩;cases e with
 |normal=>
  obtain⟨_,p,q,t,j,u,v⟩:=g;refine wpIn_mono (i B p l A r (h0.mono j.mono) q u v) ?_;rintro C a2 D ⟨c,s2,z,d⟩;exact⟨c,s2,z,d.trans t j⟩
 |_=>exact⟨b,f,i,g⟩
theorem eG.block{id:Nat}{c:Code}(h:eG LL P N rd c fr s (ma id Q)):eG LL P N rd (.block id c) fr s Q:=λB k a w r h0 l m n=>by
 refine wpIn_block (wpIn_mono (h B k a w r h0 l m n) ?_);rintro e o p ⟨d,j,f,i⟩;rw[A4]at f;cases e with
 |exit b=>
  show if b=id then _ else _;by_cases e:b=id
  .have g:u9 id (.exit b)= .normal:=if_pos e;rw[g]at f;rw[if_pos e];exact⟨d,j,f,rfl,i.2⟩
  .have g:u9 id (.exit b)= .exit b:=if_neg e;rw[g]at f;rw[if_neg e];exact⟨d,j,f,rfl,i.2⟩
 |_=>exact⟨d,j,f,rfl,i.2⟩
structure kx(LL:Nat->Code->CC->Prop)(P:Program)(f:FuncId)(xs:List AV)(s:List aa)(K:AV->List aa->Prop):Prop where
 enters:Enters P f
 calls: ∀(B:Nat) (k:aP) (w:World) (vs:List Value),St LL B k s w->fU k w vs xs->Calls P f vs.toArray w λe w'=> ∃d s',K d s'/\ ∃v k',e= .returned v/\RA k' w' v d/\Ext B k w k' w'/\St LL B k' s' w'
theorem kx.of{f:FuncId}{fn:Func}{c:Code}{xs:List AV}{K:AV->List aa->Prop}(l:P.funcs[f]?=some fn)(hb:fn.body=some c)(I:(fn.name== "runtime.NumGoroutine")=false)
  (S:xs.length<=fn.ntmps) (t: ∀(k:aP) (w:World) (vs:List Value),fU k w vs xs->FR k w {tmps:=vs.toArray++Array.replicate (fn.ntmps-vs.toArray.size) undef,defers:=[]} fr)
  (J:eG LL P fn.ntmps none c fr s λe fr' h=>(e= .normal\/e= .ret)/\ ∃d,K d h/\ ∀(B:Nat) (k:aP) (a:Act) (w:World),FR k w a fr'->St LL B k h w-> ∃v,(results fn a.tmps).run P w= .ok v w/\RA k w v d):kx LL P f xs s K:=by
 have x:fn.name≠ "runtime.NumGoroutine":=by simpa using I
 refine⟨λargs w=>by simp[callFunc,l,x,hb,Go.mark],λB k w vs p q=> ?_⟩;rw[<-callsIn_wide (n:=0)];refine callsIn_of_wp_marks l hb trivial ?_;have C:=q.1;refine wpIn_mono (J B k _ w none trivial (by simp;omega) (t k w vs q) p) ?_;rintro R r w' ⟨fr',h,⟨H,d,G,o⟩,_,k',T,⟨E,u,y,m⟩,L,M,N⟩;obtain⟨O,Q,D⟩:=HU m L N p.base
 have F:r.defers=E.map mark:=by rw[u];simp
 have j:LeavesInM Fence.wide 0 P fn r.tmps (λe i=> ∃d h,K d h/\ ∃v g,e= .returned v/\RA g i v d/\Ext B k w g i/\St LL B g h i) r.defers .returning w':=by
  rw[F];refine Ex E w' y (λb hb=>(m b hb).2.1) ?_;obtain⟨v,z,A⟩:=o B k' r _ (M.mono O) D;exact⟨v,z,d,h,G,v,k',rfl,A,Q,D⟩
 rcases H with rfl|rfl
 .exact j
 .exact j
def xA(g:Nat)(x:aa):Prop:= ∀(a:Nat->Code->CC->Prop) (B:Nat) (k:aP) (w:World) (o:Own),lr a B k w x o->lr a B ⟨k.I,k.own.set g .hole⟩ w x o
theorem xA.mapNil(g:Nat)(ag:Bool):xA g (.map ag []):=λp B k w o h=>by
 cases o with
 |blk b=>obtain⟨a,c,d,⟨f,j,_⟩,l⟩:=h;exact⟨a,c,d,⟨f,j,λi e x _ m=>by simp at m⟩,l⟩
 |row v n=>exact h.elim
 |hole=>exact h.elim
theorem St.aside{B:Nat}{k:aP}{s s2:List aa}{w:World}(h:St LL B k s w){g:Nat}{ag:Bool}{es:List (List Value×AV)}(hg:s[g]?=some (.map ag es))(F:s2.length=s.length)(A:s2[g]?=some .hole)
  (E: ∀(id:Nat) (x:aa),id≠g->s2[id]?=some x->x= .junk\/(s[id]?=some x/\xA g x)):
  ∃l f,k.own[g]?=some (.blk l)/\w.heap[l]?=some (.map f es.length)/\kz ag k w es f es.length/\k.I l=0/\B<=l/\lA ⟨k.I,k.own.set g .hole⟩ l/\St LL B ⟨k.I,k.own.set g .hole⟩ s2 w:=by
 obtain⟨o,q,p⟩:=h.get hg;cases o with
 |row v n=>exact p.elim
 |hole=>exact p.elim
 |blk l=>
  obtain⟨f,r,C,z,D⟩:=p;obtain rfl:r=es.length:=z.2.1;have u:=(aV.1 q).1;have d: ∀(id:Nat) (o:Own),(k.own.set g .hole)[id]?=some o->(id=g/\o= .hole)\/(id≠g/\k.own[id]?=some o):=λid o a=>by
   by_cases e:id=g
   .subst e;rw[ej u]at a;exact .inl ⟨rfl,(aJ a).symm⟩
   .rw[bC (Ne.symm e)]at a;exact .inr ⟨e,a⟩
  refine⟨l,f,q,C,z,D,(h.lies g _ l q rfl).1,λid o a c=> ?_,h.base,by simp[F,h.len],λid x o y a=> ?_,λid o b a c=> ?_,λi j o o' b t a m c=> ?_,h.glob⟩
  .rcases d id o a with⟨_,rfl⟩|⟨hne,a⟩
   .cases c
   .exact h.apart id g o (.blk l) l hne a q c rfl
  .rcases d id o a with⟨rfl,rfl⟩|⟨hne,a⟩
   .rw[A]at y;obtain rfl:=aJ y;trivial
   .rcases E id x hne y with rfl|⟨hs',hfr⟩
    .cases o<;>trivial
    .exact hfr LL B k w o (h.obj id x o hs' a)
  .rcases d id o a with⟨_,rfl⟩|⟨hne,a⟩
   .cases c
   .exact h.lies id o b a c
  .rcases d i o a with⟨_,rfl⟩|⟨hne,a⟩
   .cases c
   .rcases d j o' m with⟨_,rfl⟩|⟨hnj,m⟩
    .intro e;cases e
    .exact h.apart i j o o' b t a m c
theorem St.back{B:Nat}{t f:aP}{S:List aa}{D r:World}{g d:Nat}{ag:Bool}{es:List (List Value×AV)}{l:Array MapEntry}(hg:t.own[g]?=some (.blk d))(hm:kz ag t D es l es.length)(W:D.heap[d]?=some (.map l es.length))(V:B<=d)
  (C:Ext B ⟨t.I,t.own.set g .hole⟩ D f r) (w:St LL B f S r) (U:S[g]?=some .hole) (R:r.heap[d]?=some (.map l es.length)) (P:lA f d):
  ∃O,Mono f r O r/\Ext B t D O r/\St LL B O (S.set g (.map ag es)) r/\O.own=f.own.set g (.blk d):=by
 have H:=(aV.1 hg).1;have J:=(aV.1 U).1;have A:g<f.own.length:=by rw[w.len];exact J
 have T:d<D.heap.size:=kP W;have E:d<r.heap.size:=kP R;have z:f.own[g]?=some .hole:=by
  obtain⟨o,q,K⟩:=w.get U;cases o with
  |hole=>exact q
  |blk b=>exact K.elim
  |row v n=>exact K.elim
 have h: ∀(id:Nat) (o:Own),(f.own.set g (.blk d))[id]?=some o->(id=g/\o= .blk d)\/(id≠g/\f.own[id]?=some o):=λid o a=>by
  by_cases e:id=g
  .subst e;rw[ej A]at a;exact .inl ⟨rfl,(aJ a).symm⟩
  .rw[bC (Ne.symm e)]at a;exact .inr ⟨e,a⟩
 have y: ∀o,r.cell? ⟨d,o,none⟩=none:=λo=>by simp[World.cell?,R]
 have k:Mono f r ⟨dE f.I d 0,f.own.set g (.blk d)⟩ r:=⟨λb o u q hc=>by
  by_cases e:b=d
  .subst e;rw[y]at hc;cases hc
  .exact⟨by show o<dE f.I d 0 b;rw[ix _ _ e];exact q,hc⟩,λid o q=>by
  by_cases e:id=g
  .subst e;rw[z]at q;obtain rfl:=aJ q;exact⟨.blk d,ej A,trivial⟩
  .exact⟨o,by show(f.own.set g (.blk d))[id]?=_;rw[bC (Ne.symm e)];exact q,dM.refl o⟩⟩
 have p:Mono t D ⟨dE f.I d 0,f.own.set g (.blk d)⟩ r:=⟨λb o u q hc=>by
  obtain⟨L,N⟩:=C.keep b o u q hc;exact k.keep b o u L N,λid o q=>by
  by_cases e:id=g
  .subst e;rw[hg]at q;obtain rfl:=aJ q;exact⟨.blk d,ej A,rfl⟩
  .obtain⟨o',L,N⟩:=C.own id o (by show(t.own.set g .hole)[id]?=_;rw[bC (Ne.symm e)];exact q);exact⟨o',by show(f.own.set g (.blk d))[id]?=_;rw[bC (Ne.symm e)];exact L,N⟩⟩
 refine⟨⟨dE f.I d 0,f.own.set g (.blk d)⟩,k,⟨p,C.below,λb hb=> ?_,λb hb Q=> ?_,λid o b a c hb=> ?_⟩,⟨w.base,by simp[w.len],λid x o s a=> ?_,λid o b a c=> ?_,λi j o o' b F a G c=> ?_,w.glob⟩,rfl⟩
 .show dE f.I d 0 b=_;rw[ix _ _ a8];exact C.low b hb
 .refine C.rest b hb λid o a c=> ?_;have m:(t.own.set g .hole)[id]?=some o:=a;by_cases e:id=g
  .subst e;rw[ej H]at m;obtain rfl:=aJ m;cases c
  .rw[bC (Ne.symm e)]at m;exact Q id o m c
 .rcases h id o a with⟨rfl,rfl⟩|⟨hne,a⟩
  .exact⟨_,hg,c⟩
  .obtain⟨o',L,N⟩:=C.fresh id o b a c hb;have M:(t.own.set g .hole)[id]?=some o':=L;rw[bC (Ne.symm hne)]at M;exact⟨o',M,N⟩
 .rcases h id o a with⟨rfl,rfl⟩|⟨hne,hi2⟩
  .rw[ej J]at s;obtain rfl:=aJ s;exact⟨l,es.length,R,hm.mono p,gE ..⟩
  .rw[bC (Ne.symm hne)]at s;refine(w.obj id x o s hi2).same k λb c=>⟨rfl,ix _ _ ?_⟩
   intro e;rw[e]at c;exact P id o hi2 c
 .rcases h id o a with⟨rfl,rfl⟩|⟨hne,a⟩
  .cases c;exact⟨V,E⟩
  .exact w.lies id o b a c
 .rcases h i o a with⟨rfl,rfl⟩|⟨hne,hi2⟩
  .rcases h j o' G with⟨rfl,_⟩|⟨hnj,hj2⟩
   .exact absurd rfl F
   .cases c;exact P j o' hj2
  .rcases h j o' G with⟨rfl,rfl⟩|⟨hnj,hj2⟩
   .intro e;cases e;exact P i o hi2 c
   .exact w.apart i j o o' b F hi2 hj2 c
theorem FR.out{k:aP}{w:World}{a:Act}{fr:Fr}{v:Value}{d:Nat}(h:FR k w a fr)(c:d<a.tmps.size)(e: ∀t x,look fr t=some x->t≠d):FR k w (a.put (some d) v) fr:=λt x b=>by
 rw[uv a d v c t,if_neg (Ne.symm (e t x b))];exact h t x b
theorem ux{w:World}{r b:Nat}{o:Obj}(h:b≠r):(setBlock w r o).heap[b]?=w.heap[b]? :=by
 show(w.heap.setIfInBounds r o)[b]?=_;rw[Array.getElem?_setIfInBounds_ne (Ne.symm h)]
theorem S7{w:World}{r:Nat}{o:Obj}(h:r<w.heap.size):(setBlock w r o).heap[r]?=some o:=by
 show(w.heap.setIfInBounds r o)[r]?=_;rw[Array.getElem?_setIfInBounds_self_of_lt h]
theorem setIter{B:Nat}{p d:aP}{j a:World}{q:List aa}{r:Nat}{m:Option Nat}{f c:Nat}{i:Array Nat}(o':Obj)(g:Ext B p j d a)(s:St LL B d q a)(v:B<=j.heap.size)(w:j.heap.size<=r)(l:a.heap[r]?=some (.mapIter m f i c))(t:lA d r):
  Ext B p j d (setBlock a r o')/\St LL B d q (setBlock a r o')/\Mono d a d (setBlock a r o'):=by
 have h:(setBlock a r o').heap.size=a.heap.size:=by show(a.heap.setIfInBounds r o').size=_;simp
 have hm:Mono d a d (setBlock a r o'):=⟨λb o u k hc=>by
  have hne:b≠r:=by rintro rfl;simp[World.cell?,l]at hc
  refine⟨k,?_⟩;unfold World.cell? at hc⊢;rw[ux (show(⟨b,o,none⟩:Addr).block≠r from hne)];exact hc,λid o k=>⟨o,k,dM.refl o⟩⟩
 refine⟨⟨g.mono.trans hm,g.below.trans ⟨rfl,rfl,rfl,qN h.symm,λb hb=>ux a8⟩,g.low,λb hb n=> ?_,g.fresh⟩,s.same hm (qN h.symm) rfl (λb hb=>⟨ux λe=>hb (by rw[e];exact t),rfl⟩) (λb hb=>ux a8),hm⟩;rw[ux a8];exact g.rest b hb n
theorem wG: ∀{l u:List Nat},l.Nodup->(∀x∈l,x∈u)->l.length<=u.length
 |[],_,_,_=>fG _
 |x::l,u,h,hs=>by
  obtain⟨c,d⟩:=nP.1 h;have a:=hs x (by simp);have:=wG (l:=l) (u:=u.erase x) d λy b=>(List.mem_erase_of_ne (λe=>c (by rw[<-e];exact b))).2 (hs y (er _ b));rw[List.length_erase_of_mem a]at this;have hp:0<u.length:=List.length_pos_of_mem a;rw[aY];omega
theorem RA.sc_val{k:aP}{w:World}{v u:Value}(h:RA k w v (.d (.sc u))):v=u:=by have:=h.d_inv;cases this;rfl
structure Df(LL:Nat->Code->CC->Prop)(N B:Nat)(k0:aP)(w0:World)(D:List Deferred)(L bm r t10:Nat)(ents:Array MapEntry)(fr0:Fr)(J:List Nat->List aa->Prop)(idx:List Nat)(s1:List aa)(k1:aP)(a1:Act)(w1:World):Prop where
 nd:idx.Nodup
 lt: ∀i∈idx,i<L
 inv:J idx s1
 size:a1.tmps.size=N
 marks:Marks w0 w1 k1 D a1.defers
 ext:Ext B k0 w0 k1 w1
 frm:FR k1 w1 a1 ((t10,.d (.sc (.pointer (some ⟨r,0,none⟩))))::fr0)
 st:St LL B k1 s1 w1
 iter: ∃c,L<=c/\w1.heap[r]?=some (.mapIter (some bm) L idx.toArray c)
 map:w1.heap[bm]?=some (.map ents L)
 ur:lA k1 r
 ub:lA k1 bm
set_option maxHeartbeats 1000000 in
theorem Ta{R S:Array Oper}{i3 i4 t10 t11 t12 t13 ob oi:Nat}{rest:Code}{o1 o2 o3:Oper}{l4:List Oper}
  (h3:R.toList=[o1,o2]) (g1:o1.guard=none) (p1:o1.op= .next (.tmp t10) false) (d1:o1.dst=some t11) (g2:o2.guard=none) (p2:o2.op= .extract (.tmp t11) 0) (d2:o2.dst=some t12)
  (h4:S.toList=o3::l4) (g3:o3.guard=none) (p3:o3.op= .entry (.tmp t10)) (d3:o3.dst=some t13)
  (c9:t11<N) (d0:t12<N) (f5:t13<N) (n4: ∀o∈l4,∀d,o.dst=some d->d<N) (f6: ∀o∈l4,fj o=true)
  (hne:t10≠t11/\t10≠t12/\t10≠t13/\t11≠t12) {fr0:Fr} (e4: ∀t y,look fr0 t=some y->t≠t11/\t≠t12/\t≠t13)
  {ag:Bool} {es:List (List Value×AV)} {f:Array MapEntry} {J:List Nat->List aa->Prop} {keyA:List Value->AV} (c0: ∀(k:aP) (w:World) (x:List Value×AV),x∈es->RA k w (gC ag x.1) (keyA x.1))
  {B:Nat} {k0:aP} {w0:World} {D:List Deferred} {O r:Nat} {rr:Option Nat} (hB:B<=w0.heap.size) (hr:w0.heap.size<=r) (f1:qT k0 rd rr)
  (E:f.size=es.length/\ ∀(i:Nat) (e:MapEntry) (x:List Value×AV),f[i]?=some e->es[i]?=some x->e.key=gC ag x.1/\RA k0 w0 e.val x.2/\e.born=i)
  (hround: ∀(c8:Value) (g:List Nat) (i:Nat) (x:List Value×AV) (H:List aa),g.Nodup->i∉g->(∀j∈g,j<es.length)->es[i]?=some x->J g H-> ∃fl U s2,iJ LL P S l4 ((t13,.tup [keyA x.1,x.2])::(t10,.d (.sc c8))::fr0) H fl U s2/\
   eG LL P N rd rest U s2 λe d6 s3=>e= .normal/\(∀t y,look ((t10,.d (.sc c8))::fr0) t=some y->look d6 t=some y)/\J (g++[i]) s3)
  {g:List Nat} {H:List aa} {l:aP} {M:Act} {T:World} (h0:Df LL N B k0 w0 D es.length O r t10 f fr0 J g H l M T):
  (Code.loop (.seq (.region i3 R false) (.seq (.cond (.tmp t12) .skip (.exit oi)) (.block ob (.seq (.region i4 S false) rest))))).wpIn (FW rr) 0 P
   (λe' a' w'=>e'= .exit oi/\ ∃g H l,g.length=es.length/\Df LL N B k0 w0 D es.length O r t10 f fr0 J g H l a' w') M T:=by
 refine wpIn_loop_ghost (λn a w=> ∃g H l,n=es.length-g.length/\Df LL N B k0 w0 D es.length O r t10 f fr0 J g H l a w) (es.length-g.length) ⟨g,H,l,rfl,h0⟩ ?_;clear h0;rintro n M T ⟨g,H,l,rfl,h⟩;obtain⟨c,b3,I⟩:=h.iter;have e3:M.eval (.tmp t10)= .pointer (some ⟨r,0,none⟩):=RA.sc_val (h.frm t10 _ (by simp[look]))
 have V: ∀(i:Nat) (e:MapEntry),f[i]?=some e->i<es.length/\ ∃x,es[i]?=some x/\e.key=gC ag x.1/\RA k0 w0 e.val x.2/\e.born=i:=λi e he=>by
  have hi:=(gy.1 he).1;have b0:i<es.length:=by rw[<-E.1];exact hi
  exact⟨b0,es[i],bQ b0,E.2 i e _ he (bQ b0)⟩
 have c6: ∀x∈f.toList,x.born<es.length:=λx G=>by
  obtain⟨i,hi⟩:=fE G;obtain⟨l1,y,_,_,_,l2⟩:=V i x (by simpa using hi);rw[l2];exact l1
 have c3:fj o1=true:=by unfold fj;rw[p1]
 have c4:fj o2=true:=by unfold fj;rw[p2]
 have c5:fj o3=true:=by unfold fj;rw[p3]
 have b2:=run_next_at (P:=P) T o1.type r O es.length c g.toArray f es.length I h.map c6 b3
 have d4: ∀(b:Bool) (vs:List Value) (A:World) (QQ:Exit->Act->World->Prop),(Instr.next (.pointer (some ⟨r,0,none⟩)) false o1.type).run P T= .ok (.tuple (.bool b::vs).toArray) A->(∀a2:Act,a2.tmps.size=N->a2.defers=M.defers->a2.eval (.tmp t12)= .bool b->(∀k,FR k A M ((t10,.d (.sc (.pointer (some ⟨r,0,none⟩))))::fr0)->FR k A a2 ((t10,.d (.sc (.pointer (some ⟨r,0,none⟩))))::fr0))->QQ .normal a2 A)->(Code.region i3 R false).wpIn (FW rr) 0 P QQ M T:=by
  intro b vs A QQ m hQ;refine wpIn_region_list ?_;rw[h3];refine wpListIn_plain g1 λK hK=> ?_;refine Oper.wpIn_mono ?_ (dY.value (v:= .tuple (.bool b::vs).toArray) (Q:=λv w'=>v= .tuple (.bool b::vs).toArray/\w'=A) (by unfold execOp;rw[p1];refine fh ?_;rw[e3];exact m) ⟨rfl,rfl⟩ c3 rr _);rintro _ A ⟨v,rfl,rfl,rfl⟩;refine hK _ _ (wpListIn_plain g2 λK2 d8=> ?_)
  have d5:(M.put o1.dst (.tuple (.bool b::vs).toArray)).eval (.tmp t11)= .tuple (.bool b::vs).toArray:=by
   rw[d1];show(M.put (some t11) (.tuple (.bool b::vs).toArray)).tmps.getD t11 undef= .tuple (.bool b::vs).toArray;rw[uv _ _ _ (by rw[h.size];exact c9),if_pos rfl]
  refine Oper.wpIn_mono ?_ (dY.value (v:= .bool b) (Q:=λv w'=>v= .bool b/\w'=A) (by unfold execOp;rw[p2];refine fh ?_;rw[d5];simp[Instr.extract]) ⟨rfl,rfl⟩ c4 rr _);rintro _ w' ⟨v,rfl,rfl,rfl⟩;refine d8 _ _ (wpListIn_nil (hQ _ (by rw[ov,ov];exact h.size) (by rw[rE,rE]) ?_ λk hf=> ?_))
  .rw[d2];show((M.put o1.dst (.tuple (.bool b::vs).toArray)).put (some t12) (.bool b)).tmps.getD t12 undef= .bool b;rw[uv _ _ _ (by rw[ov,h.size];exact d0),if_pos rfl]
  .have a5: ∀t x,look ((t10,AV.d (.sc (.pointer (some ⟨r,0,none⟩))))::fr0) t=some x->t≠t11/\t≠t12:=λt x G=>by
    unfold look at G;split at G
    .rename_i e;subst e;exact⟨hne.1,hne.2.1⟩
    .have:=e4 t x G;exact⟨this.1,this.2.1⟩
   rw[d1,d2];exact(hf.out (by rw[h.size];exact c9) λt x G=>(a5 t x G).1).out (by rw[ov,h.size];exact d0) λt x G=>(a5 t x G).2
 refine wpIn_seq ?_;rcases b2 with⟨hz,m⟩|⟨e,hel,w1',hw1',m⟩
 .refine d4 false [] T _ m λa2 Y a6 C a7=> ?_;show Code.wpIn _ _ _ _ _ _ _;refine wpIn_seq (wpIn_cond (t:=false) C (wpIn_exit ?_));refine⟨rfl,g,H,l,?_,⟨h.nd,h.lt,h.inv,Y,by rw[a6];exact h.marks,h.ext,a7 l h.frm,h.st,⟨c,b3,I⟩,h.map,h.ur,h.ub⟩⟩;have h1:g.length<=(List.range es.length).length:=wG h.nd λx G=>lp.2 (h.lt x G)
  have h2:(List.range es.length).length<=g.length:=wG List.nodup_range λi hi=>by
   have a9:=lp.1 hi;have b8:i<f.size:=by rw[E.1];exact a9
   apply fX;intro e9;have hg:f[i]?=some f[i]:=lZ b8;obtain⟨_,_,_,_,_,hb⟩:=V i _ hg;have:f[i]∈leftOf f g.toArray:=by
    unfold leftOf;rw[Array.mem_filter];exact⟨Array.getElem_mem b8,by rw[hb];simpa using e9⟩
   rw[Array.eq_empty_of_size_eq_zero hz]at this;simp at this
  rw[dX]at h1 h2;omega
 .obtain⟨b4,W⟩:e∈f.toList/\ ¬e.born∈g:=by
   unfold leftOf at hel;rw[Array.toList_filter,na]at hel;exact⟨hel.1,by simpa using hel.2⟩
  obtain⟨i,hi⟩:=fE b4;have a9:f[i]?=some e:=by simpa using hi
  obtain⟨b7,x,G,e5,e6,b9⟩:=V i e a9;rw[b9]at W;have hd:Ext B k0 w0 l w1'/\St LL B l H w1'/\Mono l T l w1'/\w1'.heap=T.heap:=by
   rcases hw1' with rfl|rfl
   .exact⟨h.ext,h.st,Mono.refl _ _,rfl⟩
   .exact⟨h.ext.trans (Ext.drew B l T),h.st.drew,(Ext.drew B l T).mono,rfl⟩
  obtain⟨e2,f2,e7,p⟩:=hd;obtain⟨A,Z⟩: ∃A,A=setBlock w1' r (.mapIter (some O) es.length (g.toArray.push e.born) es.length):=⟨_,rfl⟩
  obtain⟨C,Y,c2⟩:=setIter (.mapIter (some O) es.length (g.toArray.push e.born) es.length) e2 f2 hB hr (by rw[p];exact I) h.ur;rw[<-Z]at C Y c2 m;have f0:O≠r:=λe=>by have:=h.map;rw[e,I]at this;cases this
  have F:A.heap[r]?=some (.mapIter (some O) es.length (g.toArray.push e.born) es.length):=by rw[Z];exact S7 (by rw[p];exact kP I)
  have q:A.heap[O]?=some (.map f es.length):=by rw[Z,ux f0,p];exact h.map
  have d9:Marks w0 A l D M.defers:=by
   obtain⟨ms,q1,q2,q3⟩:=h.marks;refine⟨ms,q1,q2,λb hb=> ?_⟩;obtain⟨q4,q5,q6⟩:=q3 b hb;refine⟨q4,?_,q6⟩;have e0:b≠r:=λe=>by rw[e,I]at q5;cases q5
   rw[Z,ux e0,p];exact q5
  have e8:(f.toList.map (·.born)).Nodup:=by
   have e1:f.toList.map (·.born)=List.range f.size:=by
    apply gW;intro j;rw[dj];by_cases X:j<f.size
    .have hg:f[j]?=some f[j]:=lZ X;obtain⟨_,_,_,_,_,hb⟩:=V j _ hg;rw[qG,hg,qK X,eY,hb]
    .rw[qG,Array.getElem?_eq_none a8,iO (by simp;omega)];rfl
   rw[e1];exact List.nodup_range
  obtain⟨fl,U,s2,hA,hR⟩:=hround (.pointer (some ⟨r,0,none⟩)) g i x H h.nd W h.lt G h.inv;refine d4 true [e.key,e.val] A _ m λa2 c7 a6 b5 a7=> ?_;have a0:=a7 l (h.frm.mono (e7.trans c2));show Code.wpIn _ _ _ _ _ _ _;refine wpIn_seq (wpIn_cond (t:=true) b5 (wpIn_skip ?_));show Code.wpIn _ _ _ _ _ _ _
  refine wpIn_block (wpIn_seq (wpIn_mono (wpIn_region_list (Q:=se LL B N a2.defers l A (λe fr s=>e= .normal/\fr=U/\s=s2)) ?_) ?_))
  .rw[h4];refine wpListIn_plain g3 λK hK=> ?_;have b6:a2.eval (.tmp t10)= .pointer (some ⟨r,0,none⟩):=RA.sc_val (a0 t10 _ (by simp[look]))
   refine Oper.wpIn_mono ?_ (dY.value (v:= .tuple #[e.key,e.val]) (Q:=λv w'=>v= .tuple #[e.key,e.val]/\w'=A) (by unfold execOp;rw[p3];refine fh ?_;rw[b6];exact run_entry_at A r O es.length g.toArray f es.length e F q b4 e8) ⟨rfl,rfl⟩ c5 rr _);rintro _ w3 ⟨v,rfl,rfl,rfl⟩;have f3:=bR G
   refine hK _ _ (GB hA ⟨rfl,rfl,rfl⟩ n4 f6 l _ w3 (by rw[ov];exact c7) (by rw[rE]) ?_ Y (Ext.refl B l w3));rw[d3];refine a0.put (dst:=some t13) (RA.tup (us:=[e.key,e.val]) rfl λj u c hu hc=> ?_) λd hd=>by cases hd;rw[c7];exact f5
   match j with
   |0=>simp at hu hc;subst hu;subst hc;rw[e5];exact c0 _ _ x f3
   |1=>simp at hu hc;subst hu;subst hc;exact e6.mono C.mono
   |j+2=>simp at hu
  .rintro _ a3 w3 ⟨_,_,k3,⟨rfl,rfl,rfl⟩,q1,q2,q3,q4,q5⟩;show Code.wpIn _ _ _ _ _ _ _;refine wpIn_mono (hR B k3 a3 w3 rr ((f1.mono C.mono).mono q3.mono) q1 q4 q5) ?_;rintro _ a4 w4 ⟨f7,s4,⟨rfl,b1,d7⟩,_,k4,l1,l2,l3,f4,l5⟩;have L:=q3.trans l3;show∃n',_/\ ∃g H l,_
   have c1:(i::g).length<=(List.range es.length).length:=wG (nP.2 ⟨W,h.nd⟩) λy hy=>lp.2 (by rcases bF.1 hy with rfl|hy;exact b7;exact h.lt y hy);rw[dX,aY]at c1
   refine⟨es.length-(g++[i]).length,by rw[aQ,oJ];omega,g++[i],s4,k4,rfl,⟨?_,?_,d7,l1,?_,C.trans L,λt y hy=>f4 t y (b1 t y hy),l5,⟨es.length,bg _,?_⟩,?_,L.unowned (kP F) h.ur,L.unowned (kP q) h.ub⟩⟩
   .exact List.nodup_append.2 ⟨h.nd,by simp,λy hy z hz e=>W (by rw[jH]at hz;rw[<-hz,<-e];exact hy)⟩
   .intro j X;rcases fk.1 X with X|X
    .exact h.lt j X
    .rw[jH]at X;subst X;exact b7
   .have m1:Marks A w3 k3 M.defers a3.defers:=Marks.same (by rw[q2,a6]);exact d9.trans C.below.size L (m1.trans q3.below.size l3 l2)
   .rw[L.rest r (kP F) h.ur,F,b9];simp
   .rw[L.rest O (kP q) h.ub,q]
set_option maxHeartbeats 1000000 in
theorem eG.map{R S z:Array Oper}{i2 i3 i4 t0 t9 t10 t11 t12 t13 ob oi:Nat}{rest:Code}{X Y o1 o2 o3:Oper}{l4:List Oper}{T kt et:TypeId}
  (h2:R.toList=[X,Y]) (ga:X.guard=none) (pa:X.op= .move (.tmp t0)) (da:X.dst=some t9) (gc:Y.guard=none) (pc:Y.op= .range T (.tmp t9)) (dc:Y.dst=some t10) (hT:P.underlying T=some (.map kt et))
  (h3:S.toList=[o1,o2]) (g1:o1.guard=none) (p1:o1.op= .next (.tmp t10) false) (d1:o1.dst=some t11) (g2:o2.guard=none) (p2:o2.op= .extract (.tmp t11) 0) (d2:o2.dst=some t12)
  (h4:z.toList=o3::l4) (g3:o3.guard=none) (p3:o3.op= .entry (.tmp t10)) (d3:o3.dst=some t13)
  (n9:t9<N) (c5:t10<N) (c6:t11<N) (c7:t12<N) (c8:t13<N) (n4: ∀o∈l4,∀d,o.dst=some d->d<N) (c9: ∀o∈l4,fj o=true)
  (hne:t10≠t11/\t10≠t12/\t10≠t13/\t11≠t12) {fr fr0:Fr} (b7: ∀t y,look fr0 t=some y->t≠t11/\t≠t12/\t≠t13) (H: ∀t y,look fr0 t=some y->t≠t9/\t≠t10)
  {g:Nat} {ag:Bool} {es:List (List Value×AV)} {J:List Nat->List aa->Prop} {keyA:List Value->AV} (a1: ∀(k:aP) (w:World) (x:List Value×AV),x∈es->RA k w (gC ag x.1) (keyA x.1)) (a6: ∀x∈es,∃d,x.2= .d d)
  (hround: ∀(a8:Value) (c:List Nat) (i:Nat) (x:List Value×AV) (C:List aa),c.Nodup->i∉c->(∀j∈c,j<es.length)->es[i]?=some x->J c C-> ∃fl Z s2,iJ LL P z l4 ((t13,.tup [keyA x.1,x.2])::(t10,.d (.sc a8))::fr0) C fl Z s2/\
   eG LL P N rd rest Z s2 λe a9 s3=>e= .normal/\(∀t y,look ((t10,.d (.sc a8))::fr0) t=some y->look a9 t=some y)/\J (c++[i]) s3)
  {s s2:List aa} (b5:look fr t0=some (.mp g)) (hg:s[g]?=some (.map ag es)) (b9:s2.length=s.length) (b8:s2[g]?=some .hole) (U: ∀(id:Nat) (x:aa),id≠g->s2[id]?=some x->x= .junk\/(s[id]?=some x/\xA g x))
  (c0:rd≠some g) (a0: ∀(k:aP) (w:World) (a:Act),FR k w a fr->FR ⟨k.I,k.own.set g .hole⟩ w a fr0) (b1:J [] s2) (b2: ∀c C,J c C->C[g]?=some .hole)
  {Q:Exit->Fr->List aa->Prop} (hQ: ∀(c:List Nat) (C:List aa),c.Nodup->c.length=es.length->(∀i∈c,i<es.length)->J c C->Q .normal fr0 (C.set g (.map ag es))):
  eG LL P N rd (.seq (.region i2 R false) (.block oi (.loop (.seq (.region i3 S false) (.seq (.cond (.tmp t12) .skip (.exit oi)) (.block ob (.seq (.region i4 z false) rest))))))) fr s Q:=by
 intro B k a w rr V F L c1;obtain⟨p,G,M,m,u,hI,b0,c2,f⟩:=c1.aside hg b9 b8 U;have a3:fj X=true:=by unfold fj;rw[pa]
 have a4:fj Y=true:=by unfold fj;rw[pc]
 have b4:a.eval (.tmp t0)= .map (some p):=by
  obtain⟨b,hb,hv⟩:=(L t0 _ b5).mp_inv;rw[M]at hb;cases hb;exact hv
 refine wpIn_seq (wpIn_region_list ?_);rw[h2];refine wpListIn_plain ga λK hK=> ?_;refine Oper.wpIn_mono ?_ (dY.value (v:= .map (some p)) (Q:=λv w'=>v= .map (some p)/\w'=w) (by unfold execOp;rw[pa];simp[b4]) ⟨rfl,rfl⟩ a3 rr _);rintro _ n ⟨v,rfl,rfl,rfl⟩;refine hK _ _ (wpListIn_plain gc λK2 b3=> ?_);have e9:(a.put X.dst (.map (some p))).eval (.tmp t9)= .map (some p):=by
  rw[da];show(a.put (some t9) (.map (some p))).tmps.getD t9 undef= .map (some p);rw[uv _ _ _ (by rw[F];exact n9),if_pos rfl]
 refine Oper.wpIn_mono ?_ (dY.value (v:= .pointer (some ⟨n.heap.size,0,none⟩)) (Q:=λv w'=>v= .pointer (some ⟨n.heap.size,0,none⟩)/\w'=n.alloc (.mapIter (some p) es.length #[] es.length)) (by unfold execOp;rw[pc];refine fh ?_;rw[e9];exact run_range_map n T kt et p G es.length hT m) ⟨rfl,rfl⟩ a4 rr _);rintro _ w2 ⟨v,rfl,rfl,a7⟩;refine b3 _ _ (wpListIn_nil ?_)
 show Code.wpIn _ _ _ _ _ _ _;have r:Below n.heap.size n w2:=by rw[a7];exact(Below.refl _ _).alloc (bg _) _
 have O:Ext B ⟨k.I,k.own.set g .hole⟩ n ⟨k.I,k.own.set g .hole⟩ w2:=Ext.fresh' f.base r (λ_ _=>rfl) _ (λid o h=>⟨o,h,dM.refl o⟩) (λid o b h hb _=>⟨o,h,hb⟩);have a5:St LL B ⟨k.I,k.own.set g .hole⟩ s2 w2:=f.same O.mono r.size rfl (λb hb=>⟨r.block b (f.owned hb).2,rfl⟩) (λb hb=>r.block b (pH hb f.base))
 have c3:lA ⟨k.I,k.own.set g .hole⟩ n.heap.size:=λid o A E=>Nat.lt_irrefl _ (f.lies id o _ A E).2;have W: ∀(i:Nat) (e:MapEntry) (x:List Value×AV),G[i]?=some e->es[i]?=some x->e.key=gC ag x.1/\RA ⟨k.I,k.own.set g .hole⟩ n e.val x.2/\e.born=i:=λi e x he O=>by
  obtain⟨l1,l2,l3⟩:=u.2.2 i e x he O;obtain⟨d,hd⟩:=a6 x (bR O);rw[hd]at l2⊢;exact⟨l1,.d l2.d_inv,l3⟩
 have b6:FR ⟨k.I,k.own.set g .hole⟩ w2 ((a.put X.dst (.map (some p))).put Y.dst (.pointer (some ⟨n.heap.size,0,none⟩))) ((t10,.d (.sc (.pointer (some ⟨n.heap.size,0,none⟩))))::fr0):=by
  have f1:=((a0 k n a L).mono O.mono).out (d:=t9) (v:= .map (some p)) (by rw[F];exact n9) λt x O=>(H t x O).1;rw[da,dc];exact f1.put (dst:=some t10) (.d (RD.sc _)) λd hd=>by cases hd;rw[ov,F];exact c5
 refine wpIn_block (wpIn_mono (Ta (N:=N) (rd:=rd) (D:=a.defers) h3 g1 p1 d1 g2 p2 d2 h4 g3 p3 d3 c6 c7 c8 n4 c9 hne b7 a1 f.base (bg _) ?_ ⟨u.1,W⟩ hround (h0:=⟨List.nodup_nil,λ_ h=>(by cases h),b1,by rw[ov,ov];exact F,Marks.same (by rw[rE,rE]),O,b6,a5,⟨es.length,bg _,by rw[a7];exact heap_alloc_new n _⟩,by rw[r.block p (kP m)];exact m,c3,c2⟩)) ?_)
 .cases rd with
  |none=>cases rr with
   |none=>trivial
   |some l=>exact V.elim
  |some id=>
   cases rr with
   |none=>exact V.elim
   |some l=>exact(bC λe=>c0 (by rw[e])).trans V
 .rintro e' a' w' ⟨rfl,c,C,k1,a2,q⟩;show(if oi=oi then _ else _);rw[if_pos rfl];obtain⟨k3,m1,m2,m3,m4⟩:=St.back M u m b0 q.ext q.st (b2 _ _ q.inv) q.map q.ub;refine⟨fr0,_,hQ c C q.nd a2 q.lt q.inv,rfl,k3,q.size,?_,m2,λt y hy=> ?_,m3⟩
  .obtain⟨ms,q1,q2,q3⟩:=q.marks;refine⟨ms,q1,q2,λb hb=> ?_⟩;obtain⟨q4,q5,q6⟩:=q3 b hb;refine⟨q4,q5,λid o A E=> ?_⟩;rw[m4]at A;by_cases e:id=g
   .subst e;rw[fB]at A;simp only[if_true]at A;split at A
    .obtain rfl:=aJ A;cases E;have:=kP m;omega
    .cases A
   .rw[bC (Ne.symm e)]at A;exact q6 id o A E
  .have c4:look ((t10,AV.d (.sc (.pointer (some ⟨n.heap.size,0,none⟩))))::fr0) t=some y:=by
    unfold look;rw[if_neg (Ne.symm (H t y hy).2)];exact hy
   exact(q.frm t y c4).mono m1
def j4(b:Nat->Code->CC->Prop)(P:Program)(N:Nat)(ops:Array Oper)(l:List Oper)(fr:Fr)(s:List aa)(Q:Exit->Fr->List aa->Prop):Prop:=
 ∀(B:Nat) (D:List Deferred) (r:Option Nat) (c:aP) (d:World) (k:aP) (a:Act) (w:World),a.tmps.size=N->a.defers=D->FR k w a fr->St b B k s w->Ext B c d k w->wpListIn (FW r) 0 P ops (se b B N D c d Q) l a w
def D4(b:Nat->Code->CC->Prop)(P:Program)(o:Oper)(fr:Fr)(s:List aa)(K:AV->List aa->Prop):Prop:=
 ∀(B:Nat) (k:aP) (a:Act) (w:World),jX k w a o fr->St b B k s w->dY P o a w λv w'=> ∃d c,K d c/\ ∃k',RA k' w' v d/\Ext B k w k' w'/\St b B k' c w'
theorem j4.nil{ops:Array Oper}{fr:Fr}{s:List aa}{Q:Exit->Fr->List aa->Prop}(h:Q .normal fr s):j4 LL P N ops [] fr s Q:=λB D r f g k a w ha b d e c=>⟨fr,s,k,h,ha,b,c,d,e⟩
theorem j4.stepN{ops:Array Oper}{o:Oper}{rest:List Oper}{fr:Fr}{s:List aa}{Q:Exit->Fr->List aa->Prop}{K:AV->List aa->Prop}(hg:gd ops fr o=some true)(f:fj o=true)(j: ∀d,o.dst=some d->d<N)(n:D4 LL P o fr s K)
  (h: ∀d c,K d c->j4 LL P N ops rest (dt fr o.dst d) c Q):j4 LL P N ops (o::rest) fr s Q:=λB D r y z k a w ha l e p m=>by
 refine wpListIn_step λK i=> ?_;rw[if_pos (Bn hg λt x _ u=>e t x u)];refine Oper.wpIn_mono ?_ (n B _ _ _ (e.ops _) p f r _);rintro _ w' ⟨v,rfl,d,c,hk,k',q,b,g⟩;exact i _ _ (h d c hk B D r y z k' _ w' (by rw[ov,ha]) (by rw[rE,l]) ((e.mono b.mono).put q (by rw[ha];exact j)) g (m.trans b))
theorem bA.toN{o:Oper}{fr:Fr}{s b:List aa}{d:AV}(h:bA LL P o fr s d b):D4 LL P o fr s λe p=>e=d/\p=b:=λB k a w m n l r c=>
 Oper.wpIn_mono (λq w' ⟨v,f,k',g,i,j⟩=>⟨v,f,d,b,⟨rfl,rfl⟩,k',g,i,j⟩) (h B k a w m n l r c)
theorem j4.step{ops:Array Oper}{o:Oper}{rest:List Oper}{fr:Fr}{s b:List aa}{d:AV}{Q:Exit->Fr->List aa->Prop}(hg:gd ops fr o=some true)(a:fj o=true)(f: ∀d,o.dst=some d->d<N)(g:bA LL P o fr s d b)
 (h:j4 LL P N ops rest (dt fr o.dst d) b Q):j4 LL P N ops (o::rest) fr s Q:= .stepN hg a f g.toN λi j ⟨c,e⟩=>by subst c;subst e;exact h
theorem eG.region{ops:Array Oper}{id:Nat}{fr:Fr}{s:List aa}{Q:Exit->Fr->List aa->Prop}(h:j4 LL P N ops ops.toList fr s λe fr s=>e= .normal/\Q .normal fr s):eG LL P N rd (.region id ops false) fr s Q:=λB k a w r h0 b c d=>
 wpIn_mono (wpIn_region_list (h B a.defers r k w k a w b rfl c d (Ext.refl B k w))) λe p w' ⟨fr',o,k',⟨f,g⟩,i,j,l,m,n⟩=>by
  subst f;exact⟨fr',o,g,rfl,k',i,Marks.same j,l,m,n⟩
theorem ET{o:Oper}{fr:Fr}{s:List aa}{f:FuncId}{ps:Array Operand}{ts:Array TypeId}{xs:List X}{vs:List AV}{K:AV->List aa->Prop}(n:o.op= .call {callee:= .value (.func f),args:=ps,argTypes:=ts})
  (y:je P ts.toList ps.toList=some xs) (x:jN fr xs=some vs) (h:kx LL P f vs s K):D4 LL P o fr s K:=by
 intro B k a w i m l r E;refine⟨λf _=>tQ r f,?_⟩;rw[xy,Cw l];have b:fU k w (ps.toList.map a.eval) vs:=Bg i y (λq p=>by rw[n];simp only[Op.operands,Call.operands];simp at p⊢;exact .inr p) x;have c:ps.map a.eval=(ps.toList.map a.eval).toArray:=by apply Array.ext';simp
 have g:(FW r).depth.isSome=true->1<=0:=λh=>by rw[Db]at h;cases h
 have u:a.eval (.func f)= .func (.func f) #[] #[]:=rfl;have j:(execOp a.eval o).run P w= .ok (.enter f (ps.toList.map a.eval).toArray) w:=by
  unfold execOp;rw[n];simp only[resolve,u,Deferred.ofValue,bP,cJ,bV,invoke];have: #[]++Array.map a.eval ps++ #[]=(ps.toList.map a.eval).toArray:=by rw[c];simp
  rw[this];exact h.enters _ w
 rw[j,Oper.uponIn_enter];refine⟨g,DH (qJ (h.calls B k w _ m b) ?_)⟩;rintro e w' ⟨d,D,t,v,k',rfl,z,A,C⟩;exact⟨v,rfl,d,D,t,k',z,A,C⟩
theorem kx.ofK{f:FuncId}{xs:List AV}{s:List aa}{K:AV->List aa->Prop}(h:bs P f xs s K):kx (dH P) P f xs s K:=
 let⟨d,m,c,hk⟩:=h;⟨c.enters,λB k w vs a b=>(c.calls B k w vs a b).mono λe w' ⟨v,k',g,i,j,l⟩=>⟨d,m,hk,v,k',g,i,j,l⟩⟩
theorem aI.of_runsN{f:FuncId}{ds:List D}{r:D}(h:kx LL P f (ds.map .d) [] λx m=>bE m 5 x=some r):aI P f ds r:=by
 refine⟨h.enters,λI w vs o k g=> ?_⟩;have j:St LL w.heap.size ⟨I,[]⟩ [] w:=⟨bg _,rfl,by simp,by simp,by simp,g⟩
 refine qJ (h.calls w.heap.size ⟨I,[]⟩ w vs j ⟨by simp[o],λi u c t hc=> ?_⟩) ?_
 .rw[dj]at hc;obtain⟨d,n,rfl⟩:=dy.1 hc;exact .d (k i u d t n)
 .rintro e w' ⟨x,m,p,v,k',rfl,y,l,s⟩;refine⟨v,rfl,B7 s (I':=gA I w.heap.size w') (λb q u hb hc=>⟨?_,hc⟩) (λb q u hb hc=> ?_) 5 x r v p y,l.below⟩
  .by_cases a:b<w.heap.size
   .rw[Ax _ _ a];have:=l.low b a;rw[this]at hb;exact hb
   .unfold gA;rw[if_neg a];exact sN hc
  .unfold gA;rw[if_neg a8];exact sN hc
end
end Go.Bb
