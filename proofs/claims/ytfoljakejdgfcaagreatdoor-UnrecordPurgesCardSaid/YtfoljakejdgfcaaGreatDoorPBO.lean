/- Part of a proof. -/
import Derived.Test.YtfoljakejdgfcaaGreatDoorPBN
set_option linter.unusedVariables false
set_option linter.unusedSimpArgs false
namespace Go.Proofs.Q
open Go Go.Bb Go.RowKit Go.Proofs.Lg
open Go.Ab (D RD)
abbrev rB(x:UInt8):List D:=[.sc (.int .u8 x.toNat)]
theorem Gi: ∀l:List UInt8,gl ((l.map rB).flatten.map .d)=some l
 |[]=>rfl
 |x::l=>by
  have h:=Gi l;have a:=x.toNat_lt;simp only[bO,fA,ma,bn,gl,pL,h];rw[if_pos a8];simp
theorem NC(b:aZ):Go.Bb.bytesRow b=b.data.toList.map rB:=rfl
theorem W1{n:Int}(h:0≤n∧n<256):[D.sc (.int .u8 n)]=rB (UInt8.ofNat n.toNat):=by
 simp only[rB];congr 4;have:n.toNat<256:=by omega
 rw[UInt8.toNat_ofNat'];omega
def gE(s:aZ):List UInt8:=s.data.toList++[128]++List.replicate ((120-(s.size+1) % 64) % 64) 0++[7,6,5,4,3,2,1,0].map fun i=>UInt8.ofNat (kX s i).toNat
theorem Ma: ∀n,(mM n).data.toList=List.replicate n 0
 |0=>rfl
 |n+1=>by
  rw[mM,uE,qM,Ma n,List.replicate_succ'];rfl
theorem HD(s:aZ): ∀(l:List Nat) (b:aZ),(l.foldl (fun a i=>a++qZ (kX s i)) b).data.toList=b.data.toList++l.map fun i=>UInt8.ofNat (kX s i).toNat
 |[],b=>by simp
 |i::l,b=>by
  rw[gz,HD s l,uE,qM,bO,bj];rfl
theorem Eb(s:aZ):(jh s).data.toList=gE s:=by
 unfold jh gE;rw[HD,uE,uE,qM,qM,Ma];rfl
theorem JD(s:aZ):(gE s).length=s.size+1+(120-(s.size+1) % 64) % 64+8:=by
 rw[←Eb,fi,JE]
theorem JC(s:aZ){m:Nat}(h:m≤s.size):(gE s).drop m=s.data.toList.drop m++[128]++List.replicate ((120-(s.size+1) % 64) % 64) 0++[7,6,5,4,3,2,1,0].map fun i=>UInt8.ofNat (kX s i).toNat:=by
 have a:s.data.toList.length=s.size:=fi s;unfold gE;rw[Cu (by simp;omega),Cu (by simp;omega),Cu a8]
def kO(s:aZ)(k:Nat):aZ:=⟨(((gE s).drop (64*k)).take 64).toArray⟩
theorem CJ{a b:ByteArray}(h:a.data.toList=b.data.toList):a=b:=by
 cases a;cases b;simp only[ByteArray.mk.injEq];exact Array.toList_inj.1 h
theorem Dd(b:ByteArray)(i j:Nat):(b.extract i j).data.toList=(b.data.toList.drop i).take (j-i):=by
 rw[ByteArray.data_extract,Array.toList_extract,List.extract_eq_take_drop]
theorem Nt(s:aZ)(k:Nat):(jh s).extract (64*k) (64*k+64)=kO s k:=by
 refine CJ ?_;rw[Dd,Eb,show 64*k+64-64*k=64 by omega];rfl
theorem Nv(s:aZ){k:Nat}(h:64*k+64≤s.size):s.extract (64*k) (64*k+64)=kO s k:=by
 have a:s.data.toList.length=s.size:=fi s;refine CJ ?_;rw[Dd,show 64*k+64-64*k=64 by omega];show _=((gE s).drop (64*k)).take 64;rw[JC s a8,bj,bj,gf (by simp;omega)]
theorem Ns(s:aZ){m k:Nat}(h:64*m≤s.size)(l:List UInt8)(a:l=(gE s).drop (64*m)):(⟨((l.take (64*k+64)).drop (64*k)).toArray⟩:ByteArray)=kO s (m+k):=by
 refine CJ ?_;show(l.take (64*k+64)).drop (64*k)=((gE s).drop (64*(m+k))).take 64;rw[a,List.drop_take,sN,show 64*k+64-64*k=64 by omega,show 64*m+64*k=64*(m+k) by omega]
theorem YC(s:aZ):lP s=(List.range ((gE s).length/64)).foldl (fun h k=>gQ h (kO s k)) iE:=by
 have b:(jh s).size=(gE s).length:=by rw[←Eb,fi]
 have a:(fun(h:List Int) (k:Nat)=>gQ h ((jh s).extract (64*k) (64*k+64)))=fun h k=>gQ h (kO s k):=funext fun h=>funext fun k=>by rw[Nt]
 have h:=Ls s (jh s) rfl;rw[b]at h;rw[h,a]
set_option maxHeartbeats 4000000 in
theorem Yb(m:aZ)(hm:m.size≤1000000000)(i base:Nat)(S:Nat→List aa→Prop)
  (M: ∀k s o,S k s→S k (s++[o])) (A: ∀k s j e z n n',S k s→base≤j→s[j]?=some (.row e z n)→S k (s.set j (.row e z n'))) (Y: ∀k s,S k s→base≤s.length)
  (hround: ∀(k:Nat) (s:List aa) (K:AV→List aa→Prop),k<(gE m).length/64→S k s→(∀G,S (k+1) G→(∀j o,base≤j→s[j]?=some o→G[j]?=some o)→K (.d (dB true)) G)→gh Tryz.prog i [.d (dS (kO m k))] s K)
  (s:List aa) (h0:S 0 s):aT Tryz.prog 252 [.yld i,.d (.ref [dS m])] s fun d G=>d=vT∧S ((gE m).length/64) G:=by
 obtain⟨W,hW⟩: ∃W,W=m.size/64:=⟨_,rfl⟩
 have q0:((64:Int)≠0)=True:=by simp
 have q1:IntKind.i64.wrap (Int.tdiv (m.size:Int) 64)=(W:Int):=ck (by rw[Int.tdiv_eq_ediv_of_nonneg a8];omega) a8;have q2:IntKind.i64.wrap ((W:Int)*64)=((64*W:Nat):Int):=ck a8 a8;refine aT.of (F:=B8) TD (by simp[B8]) ?_;simp only[B8];refine aw (ga @q0 (ga @q1 (ga @q2 @wj))) trivial ?_
 refine aX.overI (List.range W) (fun k (b:List aa)=>[(4,iN (64*k))]) (fun _ b=>b) (fun _ _=>()) () (fun k b=>S k b) s (by simp;omega) aA aA rfl rfl h0 (fun k s x hg Q C hw c a=> ?_) (fun s C c a=> ?_)
 ·rw[dX]at Q;have g:decide (((64*k:Nat):Int)<((64*W:Nat):Int))=true:=by simp;omega
  have H:IntKind.i64.wrap (((64*k:Nat):Int)+64)=((64*k+64:Nat):Int):=ck a8 a8;have q:(((64*k:Nat):Int)≤((64*k+64:Nat):Int))=True:=by simp;omega
  have I:(((64*k+64:Nat):Int)≤(m.size:Int))=True:=by simp;omega
  have J:=Nv m (k:=k) a8;clear h0 q0 q1 q2
  repeat' first|refine ak (fun _=> ?_) fun _=> ?_|refine aj.yld (hround k _ _ (by have:=JD m;omega) a (fun G h' a5=> ?_))|refine bb (ga @g (ga @H (ga @q (ga @I (ga @J @wj))))) trivial ?_|exact ba (ga @g (ga @H (ga @q (ga @I (ga @J @wj))))) trivial|fail
  exact⟨G,by rw[Nat.mul_add],rfl,h'⟩
 ·have g:decide (((64*W:Nat):Int)<((64*W:Nat):Int))=false:=by simp
  have q:(((64*W:Nat):Int)≤(m.size:Int))=True:=by simp;omega
  rw[dX]at a;clear h0;obtain⟨p,R⟩: ∃p,p=m.data.toList.drop (64*W):=⟨_,rfl⟩
  have Z:m.data.toList.length=m.size:=fi m;have hl0l:p.length=m.size-64*W:=by rw[R,ax,Z]
  have hb:Go.Bb.bytesRow (m.extract (64*W) m.size)=p.map rB:=by
   rw[NC,Dd,dm (by rw[ax,Z];omega),R]
  have a0:(m.extract (64*W) m.size).size=p.length:=by rw[ByteArray.size_extract,hl0l];omega
  have a1:(p.length≤140737488355328)=True:=by simp;omega
  have l:=room_le (n:=p.length+1) (b:=1) a8 a8;have h128:p.map rB++[[D.sc (.int .u8 128)]]=(p++[128]).map rB:=by rw[eX];rfl
  refine aw (ga @g (ga @q (ga @hb (ga @a0 (ga @a1 (ga @l (ga @h128 @wj))))))) trivial ?_;have O:=M _ _ (aa.row 5 1 (p.length+1)) a;have y:(s++[aa.row 5 1 (p.length+1)])[s.length]?=some (.row 5 1 (p.length+1)):=by simp
  have B:=Y _ _ a;obtain⟨j,f⟩: ∃j,j=s.length:=⟨_,rfl⟩
  rw[←f]at y B⊢;generalize s++[aa.row 5 1 (p.length+1)]=s1 at O y⊢;obtain⟨U,T⟩: ∃U,U=p++[128]:=⟨_,rfl⟩
  have hl1l:U.length=p.length+1:=by rw[T];simp
  rw[←T];rw[←hl1l]at y;clear c a hb a0 l h128 C g q f M;obtain⟨z,hz⟩: ∃z,z=(120-(m.size+1) % 64) % 64:=⟨_,rfl⟩
  refine aX.overI (List.replicate z (0:UInt8)) (fun k (b:List UInt8×List aa)=>[(5,.tsl j 1 (b.1.map rB))]) (fun _ b=>b.2) (fun r b=>b.1++r) (U++List.replicate z 0) (fun k b=>S W b.2∧b.2[j]?=some (.row 5 1 b.1.length)∧b.1.length=U.length+k) (U,s1) (by simp;omega) aA aA rfl rfl ⟨O,y,rfl⟩ (fun k b x hg Q C hw c a=> ?_) (fun b C c a=> ?_)
  ·obtain⟨b,s⟩:=b;obtain⟨a,f,t⟩:=a;dsimp only at c a f t;rw[fh]at Q;have hx:x=0:=by rw[mP,if_pos Q]at hg;simpa using hg.symm
   subst hx;have t1:Int.tmod (b.length:Int) 64=((b.length % 64:Nat):Int):=by rw[uI a8];omega
   have t2:(((b.length % 64:Nat):Int) !=56)=true:=by simp;omega
   have l:=room_le (n:=b.length+1) (b:=1) a8 a8;have E:fc 5 1 b.length s[j]?=true:=by rw[f];simp[fc]
   have hn:=A _ _ j _ _ _ (b.length+1) a B f;have P:=(aR.1 f).1;refine aw (ga @q0 (ga @t1 (ga @t2 (ga @l (ga @E @wj))))) trivial ?_;refine⟨(b++[0],s.set j (.row 5 1 (b.length+1))),?_,rfl,?_,hn,?_,?_⟩
   ·rw[eX];rfl
   ·rw[c,bj];rfl
   ·rw[dJ P,aN];rfl
   ·simp;omega
  ·obtain⟨N,s⟩:=b;obtain⟨a,f,t⟩:=a;dsimp only at c a f t;rw[fh]at t;rw[bg]at c;have t1:Int.tmod (N.length:Int) 64=((N.length % 64:Nat):Int):=by rw[uI a8];omega
   have t2:(((N.length % 64:Nat):Int) !=56)=false:=by simp;omega
   refine aw (ga @q0 (ga @t1 (ga @t2 @wj))) trivial ?_;obtain⟨L,hL⟩: ∃L:List Nat,L=[7,6,5,4,3,2,1,0]:=⟨_,rfl⟩
   have a3:L.length=8:=by rw[hL];rfl
   have a4: ∀k x,L[k]?=some x→x+k=7:=by
    subst hL;intro k x h
    match k,h with
    |0,h|1,h|2,h|3,h|4,h|5,h|6,h|7,h=>simp at h;omega
    |k+8,h=>simp at h
   have w:(gE m).drop (64*W)=N++L.map fun i=>UInt8.ofNat (kX m i).toNat:=by
    rw[JC m a8,←R,←T,←hz,c,hL]
   have a7:N.length≤1000:=by rw[t,hl1l,hl0l];omega
   clear c O y t1 t2 hL
   refine aX.overI L (fun k (b:List UInt8×List aa)=>[(6,.d (.sc (.int .i64 (56-8*(k:Int))))),(5,.tsl j 1 (b.1.map rB))]) (fun _ b=>b.2) (fun r b=>b.1++r.map fun i=>UInt8.ofNat (kX m i).toNat) ((gE m).drop (64*W)) (fun k b=>S W b.2∧b.2[j]?=some (.row 5 1 b.1.length)∧b.1.length=N.length+k) (N,s) a8 aA aA rfl w ⟨a,f,rfl⟩ (fun k b x hg Q C hw c a=> ?_) (fun b C c a=> ?_)
   ·obtain⟨b,s⟩:=b;obtain⟨a,f,u⟩:=a;dsimp only at c a f u;have hx:=a4 k x hg;have g:decide (56-8*(k:Int)≥0)=true:=by simp;omega
    have H:((0:Int)≤56-8*(k:Int))=True:=by simp;omega
    have q:(56-8*(k:Int)).toNat=8*x:=by omega
    have I:IntKind.i64.wrap (56-8*(k:Int)-8)=56-8*((k+1:Nat):Int):=by
     simp only[IntKind.wrap,IntKind.bits,IntKind.signed];by_cases h7:k=7
     ·subst h7;rfl
     ·have:(56-8*(k:Int)-8) % 2^64=56-8*(k:Int)-8:=by omega
      simp only[this];simp;omega
    obtain⟨v,hv⟩: ∃v,v=IntKind.u8.wrap ((IntKind.u64.wrap (IntKind.u64.wrap m.size*8)).fdiv (2^min (8*x) (IntKind.u64.bits))):=⟨_,rfl⟩
    have a2:v=kX m x:=hv;have J:b.map rB++[[D.sc (.int .u8 v)]]=(b++[UInt8.ofNat (kX m x).toNat]).map rB:=by
     rw[eX,W1 (by rw[a2];exact wD _),a2];rfl
    have l:=room_le (n:=b.length+1) (b:=1) a8 a8;have E:fc 5 1 b.length s[j]?=true:=by rw[f];simp[fc]
    have hn:=A _ _ j _ _ _ (b.length+1) a B f;have P:=(aR.1 f).1;rw[bO]at c;clear w
    repeat' first|simp only[←hv]|refine ak (fun _=> ?_) fun _=> ?_|refine bb (ga @g (ga @H (ga @q (ga @I (ga @J (ga @l (ga @E @wj))))))) trivial ?_|exact ba (ga @g (ga @H (ga @q (ga @I (ga @J (ga @l (ga @E @wj))))))) trivial|fail
    refine⟨(_,s.set j (.row 5 1 (b.length+1))),rfl,rfl,?_,hn,?_,?_⟩
    ·rw[c,bj];rfl
    ·rw[dJ P,aN];rfl
    ·simp;omega
   ·obtain⟨b,s⟩:=b;obtain⟨a,f,u⟩:=a;dsimp only at c a f u;rw[eg,bg]at c;have g:decide (56-8*((L.length:Nat):Int)≥0)=false:=by rw[a3];decide
    have b3:=JD m;have b1:b.length+64*W=(gE m).length:=by rw[←c,ax];omega
    obtain⟨V,b2⟩: ∃V,V=b.length/64:=⟨_,rfl⟩
    have a9:b.length=64*V:=by omega
    have a6:(gE m).length/64=W+V:=by omega
    clear w f A B;rw[a6];refine aw (ga @g @wj) trivial ?_;refine aX.overI (List.range V) (fun k (b:List aa)=>[(7,iN (64*k))]) (fun _ b=>b) (fun _ _=>()) () (fun k b=>S (W+k) b) s (by simp;omega) aA aA rfl rfl a (fun k s x hg Q C hw X a=> ?_) (fun s C X a=> ?_)
    ·rw[dX]at Q;have g:decide (((64*k:Nat):Int)<(b.length:Int))=true:=by simp;omega
     have H:IntKind.i64.wrap (((64*k:Nat):Int)+64)=((64*k+64:Nat):Int):=ck a8 a8;have q:(((64*k:Nat):Int)≤((64*k+64:Nat):Int))=True:=by simp;omega
     have I:(((64*k+64:Nat):Int)≤(b.length:Int))=True:=by simp;omega
     have J:=Ns m (m:=W) (k:=k) a8 b c.symm;clear X hg C hw
     repeat' first|simp only[←List.map_take,←List.map_drop]|refine ak (fun _=> ?_) fun _=> ?_|refine aj.yld (hround (W+k) _ _ a8 a (fun G h' a5=> ?_))|refine bb (ga @g (ga @H (ga @q (ga @I (ga @J (ga @Gi @wj)))))) trivial ?_|exact ba (ga @g (ga @H (ga @q (ga @I (ga @J (ga @Gi @wj)))))) trivial|fail
     exact⟨G,by rw[Nat.mul_add],rfl,h'⟩
    ·have g:decide (((64*V:Nat):Int)<(b.length:Int))=false:=by simp;omega
     rw[dX]at a;refine aw (ga @g @wj) trivial ?_
     all_goals exact a
theorem uM(P:Program)(l:List CO)(K:Fr→List aa→List Nat→Prop)(a:List Nat)(fr:Fr)(s:List aa)(m t:Nat):df P l K a fr (some t) m s (.d (.sc .nilFunc))=bH P l K (m::a) ((t,.d (.sc .nilFunc))::fr) s:=propext dj
theorem Yc(m:aZ)(s:List aa):aT Tryz.prog 200 [.d (dS m)] s fun d a=>d= .clo 252 [] [.d (.ref [dS m])]∧a=s:=by
 refine aT.of (F:=B7) TC (by simp[B7]) ?_;simp only[B7];exact bx (ga @uM @wj) trivial
 all_goals first|rfl|exact⟨rfl,rfl⟩
def kB(m:aZ)(k:Nat):List Int:=(List.range k).foldl (fun h k=>gQ h (kO m k)) iE
theorem Fl(m:aZ): ∀k,(kB m k).length=8
 |0=>rfl
 |k+1=>by rw[kB,List.range_succ,List.foldl_append,gz,List.foldl_nil,gQ,uP];exact Fl m k
theorem Yx(m:aZ)(k:Nat):kB m (k+1)=gQ (kB m k) (kO m k):=by
 rw[kB,List.range_succ,List.foldl_append];rfl
def kz:CC:=fo [om 4 12]
def kA:CC:= .block 1 (fo [o0 13 (.ld (some 8) (.t 3)),om 14 4,o0 15 (.call (.fn 201) [(.t 13),(.t 14)]),oN (.st 8 (.t 3) (.t 15))])
def mf(i:Nat)(fr:Fr)(m:aZ)(k:Nat)(s:List aa):Prop:=(s[0]?=some (.cells ((aq .zero).map .d))∧s[1]?=some (.cells ((bp .u32 (kB m k)).map .d)))∧s[i]?=some (.loop ⟨.ready,none,fr,[12],38,kz,kA⟩)
theorem mf.app{i:Nat}{fr:Fr}{m:aZ}{k:Nat}{s:List aa}(h:mf i fr m k s)(o:aa):mf i fr m k (s++[o]):=
 ⟨⟨bP h.1.1 _,bP h.1.2 _⟩,bP h.2 _⟩
theorem mf.set{i:Nat}{fr:Fr}{m:aZ}{k:Nat}{s:List aa}(h:mf i fr m k s){j:Nat}{e z n f:Nat}(g:i+1≤j)(c:s[j]?=some (.row e z n)):mf i fr m k (s.set j (.row e z f)):=by
 obtain⟨⟨a,b⟩,d⟩:=h;refine⟨⟨?_,?_⟩,?_⟩
 ·rw[bs (by rintro rfl;rw[c]at a;cases a)];exact a
 ·rw[bs (by rintro rfl;rw[c]at b;cases b)];exact b
 ·rw[bs a8];exact d
theorem mf.len{i:Nat}{fr:Fr}{m:aZ}{k:Nat}{s:List aa}(h:mf i fr m k s):i+1≤s.length:=(aR.1 h.2).1
theorem Nu{m:aZ}{k:Nat}(h:k<(gE m).length/64):(kO m k).size=64:=by
 rw[←fi];show(((gE m).drop (64*k)).take 64).length=64;rw[du,ax];omega
set_option maxHeartbeats 2000000 in
theorem Y7{i:Nat}{fr:Fr}{m:aZ}{k:Nat}{s:List aa}(E:1<i)(g:Bb.look fr 3=some (.ptr 1 0))(h:mf i fr m k s)(D:k<(gE m).length/64){K:AV→List aa→Prop}
  (C: ∀q,mf i fr m (k+1) q→(∀j o,i+1≤j→s[j]?=some o→q[j]?=some o)→K (.d (dB true)) q):gh Tryz.prog i [.d (dS (kO m k))] s K:=by
 have x:=h.len;obtain⟨⟨u,v⟩,f⟩:=h;have A:=Ye (kB m k) (kO m k) (Fl m k) (Nu D);unfold gh;rw[f];refine⟨rfl,rfl,?_⟩;simp only[kz,kA,putL,mc,uK]
 repeat' first|simp only[cG]|refine ak (fun _=> ?_) fun _=> ?_|refine bb @wj trivial ?_|exact ba @wj trivial|fail
 unfold jn;rw[f];refine⟨rfl,?_⟩;have y:(s.set i (.loop {({st:= .ready,pend:=none,fr:=fr,ps:=[12],N:=38,ca:=kz,cb:=kA}:j1)with st:= .busy}))[0]?=some (.cells ((aq .zero).map .d)):=by
  rw[bs a8];exact u
 have r:(s.set i (.loop {({st:= .ready,pend:=none,fr:=fr,ps:=[12],N:=38,ca:=kz,cb:=kA}:j1)with st:= .busy}))[1]?=some (.cells ((bp .u32 (kB m k)).map .d)):=by
  rw[bs a8];exact v
 have t:(s.set i (.loop {({st:= .ready,pend:=none,fr:=fr,ps:=[12],N:=38,ca:=kz,cb:=kA}:j1)with st:= .busy}))[i]?=some (.loop ⟨.busy,none,fr,[12],38,kz,kA⟩):=by
  rw[ey,if_pos rfl,if_pos a8]
 have a: ∀j o,i+1≤j→s[j]?=some o→(s.set i (.loop {({st:= .ready,pend:=none,fr:=fr,ps:=[12],N:=38,ca:=kz,cb:=kA}:j1)with st:= .busy}))[j]?=some o:=fun j o w n=>by
  rw[bs a8];exact n
 generalize(s.set i (.loop {({st:= .ready,pend:=none,fr:=fr,ps:=[12],N:=38,ca:=kz,cb:=kA}:j1)with st:= .busy}))=T at y r t a⊢;have b:=Fl m k;have z:(bp .u32 (kB m k)).take 8=bp .u32 (kB m k):=dm (by rw[dY,b];decide);have c: ∀e:List AV,e.length=8→aV ((bp .u32 (kB m k)).map .d) 0 8 e=some e:=fun e h=>kp (k:= .u32) b h
 have p:(gQ (kB m k) (kO m k)).length=8:=by rw[gQ,uP];exact b
 clear u v f
 repeat' first|refine ak (fun _=> ?_) fun _=> ?_|refine aD ?_|refine aj.data (A) rfl ?_|simp only[cG,g,r,z,c,p,b,dY,aL,wj,wy,qg,aC,reduceCtorEq,reduceIte,Nat.reduceAdd,Nat.reduceMul,Nat.reduceEqDiff,Nat.reduceLT,Nat.reduceLeDiff,Nat.reduceSub,ax,aB,ay,au]
 unfold jW;have l:=(aR.1 r).1;have B:(T.set 1 (aa.cells (List.map AV.d (bp .u32 (gQ (kB m k) (kO m k))))))[i]?=some (.loop ⟨.busy,none,fr,[12],38,kz,kA⟩):=by
  rw[bs a8];exact t
 rw[B];refine C _ ⟨⟨?_,?_⟩,?_⟩ fun j o w n=> ?_
 ·rw[bs a8,bs a8];exact y
 ·rw[bs a8,dJ l,Yx]
 ·rw[dJ (by simp;exact(aR.1 t).1)]
 ·rw[bs a8,bs a8];exact a j o w n
theorem Y6{fr:Fr}{s:List aa}{m:aZ}(hm:m.size≤1000000000)(c:Bb.look fr 3=some (.ptr 1 0))(f:s[0]?=some (.cells ((aq .zero).map .d)))(a:s[1]?=some (.cells ((bp .u32 iE).map .d))):
  jP (dx Tryz.prog) Tryz.prog (.clo 252 [] [.d (.ref [dS m])]) [.yld s.length] (s++[.loop ⟨.ready,none,fr,[12],38,kz,kA⟩]) fun _ b=>(b[0]?=some (.cells ((aq .zero).map .d))∧b[1]?=some (.cells ((bp .u32 (lP m)).map .d)))∧b[s.length]?=some (.loop ⟨.ready,none,fr,[12],38,kz,kA⟩):=by
 have p:1<s.length:=(aR.1 a).1;refine jP.fn (aT.mono (Yb m hm s.length (s.length+1) (mf s.length fr m) (fun k s o h=>h.app o) (fun k s j e z n t h q l=>h.set q l) (fun k s h=>h.len) (fun k s K r h i=>Y7 p c h r i) _ ⟨⟨bP f _,bP a _⟩,by simp⟩) ?_);rintro d b ⟨_,a,g⟩;have h:kB m ((gE m).length/64)=lP m:=(YC m).symm
 rw[h]at a;exact⟨a,g⟩
theorem Yd(v:Int)(k m:Nat)(hm:m<4)(b:k<8)(H:List Int)(a:at_ H k=v):IntKind.u8.wrap (v.fdiv (2^min (24-8*m) IntKind.u32.bits))=nb H (4*k+m):=by
 rw[nb,show(4*k+m)/4=k by omega,show(4*k+m) % 4=m by omega,a];rfl
theorem Oq(H:List Int):lA H=(List.range 8).foldl (fun b k=>(List.range 4).foldl (fun b m=>b.set (4*k+m) (nb H (4*k+m))) b) (List.replicate 32 0):=by
 have h:List.range 32=(List.range 8).flatMap fun k=>(List.range 4).map (4*k+ ·):=by decide
 unfold lA;rw[h,List.foldl_flatMap];simp only[List.foldl_map]
set_option maxHeartbeats 1000000 in
theorem Ya(m:aZ)(hm:m.size≤1000000000):aE Tryz.prog 144 [dS m] (.agg (aq (bE m))):=by
 have hb:=fun s=>Yc m s;have B:iE.length=8:=rfl;have a: ∀f:List AV,f.length=8→aV ((bp .u32 (List.replicate 8 0)).map .d) 0 8 f=some f:=fun f h=>kp (k:= .u32) (by rfl) h;have e:=Kl m;obtain⟨H,A⟩: ∃H,H=lP m:=⟨_,rfl⟩
 have g:=Lt m;rw[←A]at e g;refine aI (F:=B6) TB (by simp[B6]) ?_;simp only[B6]
 repeat' first|refine ak (fun _=> ?_) fun _=> ?_|refine aD ?_|refine aj.data (Yg) rfl ?_|(refine aj.fn ((hb _).mono ?_);rintro _ z ⟨rfl,rfl⟩)|simp only[z8,a,B,dY,aL,wj,wy,qg,aC,reduceCtorEq,reduceIte,Nat.reduceAdd,Nat.reduceMul,Nat.reduceEqDiff,Nat.reduceLT,Nat.reduceLeDiff,Nat.reduceSub,ax,aB,ay,au]
 refine⟨trivial,_,_,_,rfl,(Y6 hm rfl rfl rfl).mono ?_⟩;rintro _ z ⟨⟨I,J⟩,u⟩;unfold kH;rw[u];refine⟨by simp,?_⟩
 have h0T:(z.set [aa.cells (List.map AV.d (aq Dg.zero)),aa.cells (List.map AV.d (bp IntKind.u32 iE))].length (aa.loop ⟨.exhausted,none,[(11,AV.clo 252 [] [AV.d (D.ref [dS m])]),(2,AV.ptr 0 0),(3,AV.ptr 1 0)],[12],38,kz,kA⟩))[0]?=some (.cells ((aq .zero).map .d)):=by
  rw[bs (by simp)];exact I
 have h1T:(z.set [aa.cells (List.map AV.d (aq Dg.zero)),aa.cells (List.map AV.d (bp IntKind.u32 iE))].length (aa.loop ⟨.exhausted,none,[(11,AV.clo 252 [] [AV.d (D.ref [dS m])]),(2,AV.ptr 0 0),(3,AV.ptr 1 0)],[12],38,kz,kA⟩))[1]?=some (.cells ((bp .u32 H).map .d)):=by
  rw[bs (by simp),A];exact J
 dsimp only;generalize(z.set [aa.cells (List.map AV.d (aq Dg.zero)),aa.cells (List.map AV.d (bp IntKind.u32 iE))].length (aa.loop ⟨.exhausted,none,[(11,AV.clo 252 [] [AV.d (D.ref [dS m])]),(2,AV.ptr 0 0),(3,AV.ptr 1 0)],[12],38,kz,kA⟩))=T at h0T h1T⊢;have M:(bp .u32 H).take 8=bp .u32 H:=dm (by rw[dY,g];decide);clear I J u hb a A;rw[e]
 have h1J:=bP h1T;refine aw (ga @h1T (ga @h1J (ga @M (ga @dY (ga @g @wj))))) trivial ?_;have p:lA H=(List.range 8).foldl (fun b k=>(List.range 4).foldl (fun b m=>b.set (4*k+m) (nb H (4*k+m))) b) (List.replicate 32 0):=Oq H
 refine aX.overI (List.range 8) (fun k (b:List Int)=>[(17,iN k)]) (fun k b=>T++[.cells ((bp .u8 b).map .d)]) (fun r b=>r.foldl (fun b k=>(List.range 4).foldl (fun b m=>b.set (4*k+m) (nb H (4*k+m))) b) b) (lA H) (fun k b=>b.length=32) (List.replicate 32 0) (by decide) aA aA rfl p (by simp) (fun k b x hg O K P o n=> ?_) (fun b K o n=> ?_)
 ·rw[dX]at O;obtain rfl:k=x:=by rw[nV a8]at hg;simpa using hg
  have L:((k:Int)<8)=True:=by simp;omega
  have N:=fD (w:=H) (i:=k) a8;rw[gz]at o;clear hg K e p h1J;refine aw (ga @L (ga @N @mH)) trivial ?_
  refine aX.overI (List.range 4) (fun m (b:List Int)=>[(21,iN m)]) (fun m b=>T++[.cells ((bp .u8 b).map .d)]) (fun r b=>r.foldl (fun b m=>b.set (4*k+m) (nb H (4*k+m))) b) ((List.range 4).foldl (fun b m=>b.set (4*k+m) (nb H (4*k+m))) b) (fun m b=>b.length=32) b (by decide) aA aA rfl rfl n (fun m b x hg hm t E c j=> ?_) (fun b t c j=> ?_)
  ·rw[dX]at hm;obtain rfl:m=x:=by rw[nV a8]at hg;simpa using hg
   have Q:IntKind.i64.wrap (4*(k:Int))=((4*k:Nat):Int):=ck a8 a8;have R:IntKind.i64.wrap (((4*k:Nat):Int)+(m:Int))=((4*k+m:Nat):Int):=ck a8 a8;have S:IntKind.i64.wrap (8*(m:Int))=((8*m:Nat):Int):=ck a8 a8;have U:IntKind.i64.wrap (24-((8*m:Nat):Int))=((24-8*m:Nat):Int):=ck a8 a8
   have V:((0:Int)≤((24-8*m:Nat):Int))=True:=by simp
   have W:(((4*k+m:Nat):Int)<32)=True:=by simp;omega
   have X:((m:Int)<4)=True:=by simp;omega
   have C:=Yd (at_ H k) k m a8 a8 H rfl;have v:=fun x=>lJ (k:= .u8) (l:=b) (i:=4*k+m) a8 x;rw[gz]at c;clear hg t o
   repeat' first|refine ak (fun _=> ?_) fun _=> ?_|refine aD ?_|simp only[L,Q,R,S,U,V,W,X,C,v,E,mH,gW,Int.reduceLE,Int.reduceLT,Int.reduceGE,Int.reduceGT,Int.reduceEq,Int.reduceNe,Int.reduceBEq,Int.reduceBNe,decide_true,decide_false,wj,wy,qg,aC,reduceCtorEq,reduceIte,Nat.reduceAdd,Nat.reduceMul,Nat.reduceEqDiff,Nat.reduceLT,Nat.reduceLeDiff,Nat.reduceSub,ax,aB,ay,au]
   exact⟨_,rfl,c,by simp[j]⟩
  ·rw[List.foldl_nil]at c;refine aw @P trivial ?_;exact⟨b,rfl,by rw[o,c],j⟩
 ·have C:lA H=b:=o;have G:(bp .u8 b).take 32=bp .u8 b:=dm (by rw[dY,n];decide);have a: ∀f:List AV,f.length=32→aV ((aq .zero).map .d) 0 32 f=some f:=fun f h=>gp (by rw[aL,bc]) h;have h0J:=bP h0T;have q:=(aR.1 h0T).1
  have y:((T++[aa.cells (List.map AV.d (bp .u8 b))]).set 0 (aa.cells (List.map AV.d (bp .u8 b))))[0]?=some (.cells (List.map AV.d (bp .u8 b))):=dJ (by simp)
  repeat' first|refine ak (fun _=> ?_) fun _=> ?_|refine bb (ga @h0T (ga @h0J (ga @q (ga @y (ga @G (ga @a (ga @dY (ga @n @wj)))))))) trivial ?_|exact ba (ga @h0T (ga @h0J (ga @q (ga @y (ga @G (ga @a (ga @dY (ga @n @wj)))))))) trivial|fail
  rw[C]
end Go.Proofs.Q
