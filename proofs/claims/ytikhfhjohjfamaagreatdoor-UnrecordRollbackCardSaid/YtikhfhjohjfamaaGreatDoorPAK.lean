/- Lemmas. -/
import Derived.Test.YtikhfhjohjfamaaGreatDoorPAI
set_option linter.unusedVariables false
set_option linter.unusedSimpArgs false
set_option maxRecDepth 100000
namespace Go.Proofs.Q
open Go Go.Bb Go.RowKit Go.Proofs.Lg
open Go.Ab (D RD)
theorem sV: ∀{d:Nat} {x:Sx},eX d x->1<=bW d x
 |0,_,h=>h.elim
 |d+1,.mk b a l,h=>by unfold bW;split<;>omega
theorem zG{α:Type}(f:α->Nat): ∀{l:List α} {k:Nat} {x:α},l[k]?=some x->f x<=(l.map f).sum
 |y::l,0,x,h=>by simp at h;subst h;simp
 |y::l,k+1,x,h=>by have:=zG f (l:=l) (k:=k) (x:=x) (by simpa using h);simp;omega
theorem uY{α:Type}(f:α->Nat): ∀{l:List α},(∀x∈l,1<=f x)->l.length<=(l.map f).sum
 |[],_=>by simp
 |y::l,h=>by
  have:=uY f (l:=l) λx a=>h x (er _ a);have:=h y (by simp);simp;omega
theorem oC{n:Int}{m:Nat}(h:n=m)(hm:m<9223372036854775808):IntKind.i64.wrap n=(m:Int):=bN h hm
theorem vO{a b:ByteArray}(h:a.size+b.size<=9223372036854775807):(((a.size+b.size:Nat):Int)<=9223372036854775807)=True:=by simp;omega
theorem eX.mem{d:Nat}{a:bb}{l:List Sx}(h:eX (d+1) (.mk true a l)){k:Nat}{x:Sx}(hg:l[k]?=some x):eX d x:=by
 rcases h with⟨h,_⟩|⟨_,_,h⟩
 .cases h
 .exact h x (bR hg)
set_option maxHeartbeats 1000000 in
theorem Ll: ∀(d:Nat) (x:Sx) (c D:Nat),eX d x->bW d x<=c->c<=1000000000->d<=D->D<=1000->aI Tryz.prog 410 [.agg (aj x),dI c,dI D] (dI (bW d x))
 |0,_,_,_,h,_,_,_,_=>h.elim
 |d+1,.mk b a l,c,D,hg0,hn,hlim,hd,hD=>by
  have j: ¬((D:Int)<1):=by omega
  have hp:=sV hg0;have m: ¬((c:Int)<1):=by omega
  have p:=Ll d;refine aL Tryz.f410 ?_ [100003] [[8,2,7,1,3]];rw[lT]
  repeat' first|refine ab (λ_=> ?_) λ_=> ?_|refine aG (ga @j @m) trivial ?_|exact aF (ga @j @m) trivial|fail
  .rename_i hb;subst hb;have q:bW (d+1) (.mk true a l)=1+(l.map (bW d)).sum:=rfl;have f:l.length<=(l.map (bW d)).sum:=uY _ λx o=>by
    obtain⟨k,hk⟩:=fE o;exact sV (hg0.mem hk)
   rw[q]at hn⊢;refine aZ.over l (λk (n:Nat)=>[(8,iN k),(7,iN n)]) (λ_ _=>[]) (λr n=>n+(r.map (bW d)).sum) (1+(l.map (bW d)).sum) 1 a8 aA aA rfl rfl (λk n x hg hk e w i=> ?_) (λn e i=> ?_)
   .have o:=hg0.mem hg;have g:((x::l.drop (k+1)).map (bW d)).sum=bW d x+((l.drop (k+1)).map (bW d)).sum:=by simp
    rw[g]at i;have s:decide ((n:Int)<=(c:Int))=true:=by simp;omega
    have t:IntKind.i64.wrap ((c:Int)-n)=((c-n:Nat):Int):=oC a8 a8;have u:IntKind.i64.wrap ((D:Int)-1)=((D-1:Nat):Int):=oC a8 a8;have v:IntKind.i64.wrap ((n:Int)+bW d x)=((n+bW d x:Nat):Int):=oC a8 a8;have hc:=p x (c-n) (D-1) o a8 a8 a8 a8;clear p q f hp j m
    refine aC (ga @e (ga @w (ga @hg (ga @s (ga @t (ga @u @v)))))) @hc ?_;exact⟨n+bW d x,rfl,by omega⟩
   .refine aC @e trivial ?_;simp at i;rw[i]
  .rename_i hb;subst hb;rfl
theorem Lk: ∀(d:Nat) (x:Sx),eX d x->(∀l:List Sx,l.length<=0\/True)->bW d x<=1000000000->aI Tryz.prog 411 [.agg (aj x)] (dI 0)
 |0,_,h,_,_=>h.elim
 |d+1,.mk b a l,hg0,_,hn=>by
  have f:=Lk d;rcases id hg0 with⟨rfl,rfl,ha⟩|⟨rfl,rfl,hl⟩
  .have i:decide ((a.size:Int)>65536)=false:=by simp;omega
   refine aL Tryz.f411 ?_ [100001] [[3,1]];rw[lT]
   repeat' first|refine ab (λ_=> ?_) λ_=> ?_|refine aH ?_|simp only[i,gt_iff_lt,n0,decide_false,wy,qg,aE,simprocAttr,ax,aD,aB,aw]
  .have j:bW (d+1) (.mk true ⟨#[]⟩ l)=1+(l.map (bW d)).sum:=rfl;have g:l.length<=(l.map (bW d)).sum:=uY _ λx e=>sV (hl x e);rw[j]at hn;refine aL Tryz.f411 ?_ [100001] [[3,1]];rw[lT];refine aC @mq trivial ?_
   refine aZ.over l (λk (_:Unit)=>[(3,iN k)]) (λ_ _=>[]) (λ_ _=>()) () () a8 aA aA rfl rfl (λk _ x hg hk c m _=> ?_) (λ_ c _=> ?_)
   .have e:=hl x (bR hg);have hc:=f x e (λ_=> .inr trivial) (by have:=zG (bW d) hg;omega);clear f;refine aC (ga @c (ga @m @hg)) @hc ?_;exact⟨(),trivial⟩
   .repeat' first|refine ab (λ_=> ?_) λ_=> ?_|refine aG @c trivial ?_|exact aF @c trivial|fail
theorem N5(a b:List UInt8):str a++str b=str (a++b):=by
 unfold str;apply ByteArray.ext;simp[xw]
theorem rN(a:List UInt8):(str a).size=a.length:=by unfold str;simp[ByteArray.size]
theorem yi: ∀f n,(gB f n).length<=f+1
 |0,n=>by simp[gB]
 |f+1,n=>by
  unfold gB;split
  .simp
  .have:=yi f (n/10);simp;omega
theorem It(n:Nat):UInt8.ofNat (IntKind.u8.wrap (48+((n % 10:Nat):Int))).toNat=nn n:=by
 have h:IntKind.u8.wrap (48+((n % 10:Nat):Int))=((48+n % 10:Nat):Int):=by
  simp only[IntKind.wrap,IntKind.bits,IntKind.signed];have:(48+((n % 10:Nat):Int)) % 2^8=((48+n % 10:Nat):Int):=by omega
  simp only[this];simp
 rw[h,fY,nn]
theorem Hg(o:Option aa){n:Int}(h:(0<=n/\n<256)=True):tz o (.d (.sl 1 [[.sc (.int .u8 n)]]))=some (str [UInt8.ofNat n.toNat]):=by
 show(iS [.d (.sc (.int .u8 n))]).map _=_;simp only[iS,so,h,if_true,eE,eY];rfl
theorem Nq(n:Int):(0<=IntKind.u8.wrap n/\IntKind.u8.wrap n<256)=True:=by
 simp only[IntKind.wrap,IntKind.bits,IntKind.signed];have a:0<=n % 2^8:=Int.emod_nonneg _ (by decide);have b:n % 2^8<2^8:=Int.emod_lt_of_pos _ (by decide);simp;omega
set_option maxHeartbeats 1000000 in
theorem F8: ∀(f n:Nat),n<10^(f+1)->f<=19->n<=9223372036854775807->aI Tryz.prog 132 [dI n] (dS (str (gB f n)))
 |f,n,hn,hf,hm=>by
  have l:=λm (h:m<f)=>F8 m (n/10);have h0: ¬((n:Int)<0):=by omega
  have s:gB f n=if n<10 then[nn n]else gB (f-1) (n/10)++[nn n]:=by
   cases f with
   |zero=>rw[if_pos (by simpa using hn)];rfl
   |succ f=>rfl
  rw[s];by_cases h:n<10
  .have d:(n:Int)<10:=by omega
   have o:=It n;have j:n % 10=n:=xK h;rw[j]at o;have t:IntKind.i64.wrap (48+(n:Int))=((48+n:Nat):Int):=oC a8 a8;refine aL Tryz.f132 ?_ [100016,100025];have hb:=Hg none (Nq ((48+n:Nat):Int));refine aC (ga @h0 (ga @d (ga @t @hb))) trivial ?_;have c:((48+n:Nat):Int)=48+(n:Int):=by omega
   rw[if_pos h,c,o]
  .have d: ¬(n:Int)<10:=by omega
   have i:f-1<f:=by
    cases f with
    |zero=>simp at hn;omega
    |succ f=>omega
   have p:IntKind.i64.wrap (Int.tdiv (n:Int) 10)=((n/10:Nat):Int):=oC (by rw[Int.tdiv_eq_ediv_of_nonneg a8];omega) a8;have q:Int.tmod (n:Int) 10=((n % 10:Nat):Int):=by rw[xC a8];omega
   have r:IntKind.i64.wrap (48+((n % 10:Nat):Int))=((48+n % 10:Nat):Int):=oC a8 a8;have hc:=l (f-1) i (by
    obtain⟨g,rfl⟩: ∃g,f=g+1:=⟨f-1,by omega⟩
    rw[Nat.pow_succ]at hn;simp only[Nat.add_sub_cancel];omega) a8 a8
   clear l;refine aL Tryz.f132 ?_ [100016,100025];have hb:=Hg none (Nq ((48+n % 10:Nat):Int));have k:=vO (a:=str (gB (f-1) (n/10))) (b:=str [UInt8.ofNat (IntKind.u8.wrap ((48+n % 10:Nat):Int)).toNat]) (by rw[rN,rN];have:=yi (f-1) (n/10);simp;omega);have e:((10:Int)≠0)=True:=by simp
   refine aC (ga @h0 (ga @d (ga @e (ga @p (ga @q (ga @r (ga @hb @k))))))) @hc ?_;have c:((48+n % 10:Nat):Int)=48+((n % 10:Nat):Int):=by omega
   rw[if_neg h,c,It,N5]
termination_by f=>f
theorem Lj(n:Int)(f: -1099511627776<=n)(g:n<=1099511627776):aI Tryz.prog 132 [dI n] (dS (dec n)):=by
 unfold dec;by_cases h:n<0
 .have d: ¬n< -9223372036854775807:=by omega
  have e:IntKind.i64.wrap (-n)=((-n).toNat:Int):=oC a8 a8;have hc:=F8 19 (-n).toNat a8 a8 a8;have c:=vO (a:=⟨#[45]⟩) (b:=str (gB 19 (-n).toNat)) (by rw[rN];have:=yi 19 (-n).toNat;show 1+_<=_;omega);rw[if_pos h];refine aL Tryz.f132 ?_ [100016,100025];refine aC (ga @h (ga @d (ga @e @c))) @hc ?_
  show Value.string (str [45]++_)=_;rw[N5];rfl
 .have hc:=F8 19 n.toNat a8 a8 a8;rw[if_neg h];rw[Int.toNat_of_nonneg a8]at hc;exact hc
theorem Vr(n:Int):aI Tryz.prog 382 [dI n] (.tup [.agg (aj (cU n)),dI (if n< -1099511627776\/1099511627776<n then 2 else 0)]):=by
 unfold cU;by_cases h:n< -1099511627776\/1099511627776<n
 .rw[if_pos h,if_pos h];refine aL Tryz.f382 ?_ [300010,300013]
  repeat' first|refine ab (λ_=> ?_) λ_=> ?_|refine aG @ec trivial ?_|exact aF @ec trivial|fail
  .rfl
  .rfl
  .omega
 .have hc:=Lj n a8 a8;rw[if_neg h,if_neg h];refine aL Tryz.f382 ?_ [300010,300013]
  repeat' first|refine ab (λ_=> ?_) λ_=> ?_|refine aG @ec @hc ?_|exact aF @ec @hc|fail
  .omega
  .omega
  .rfl
theorem Ee(d:Nat): ∀(l:List Sx) (s:bb),(l.foldl (λs x=>s++iq d x) s).size=s.size+(l.map λx=>(iq d x).size).sum
 |[],s=>by simp
 |x::l,s=>by rw[ig,Ee d l,mb];simp;omega
set_option maxHeartbeats 1000000 in
theorem Lm: ∀(d:Nat) (x:Sx),eX d x->bW d x<=1000000000->(iq d x).size<=1000000000000->aI Tryz.prog 381 [.agg (aj x)] (dS (iq d x))
 |0,_,h,_,_=>h.elim
 |d+1,.mk b a l,hg0,hn,hz=>by
  have j:=Lm d;rcases id hg0 with⟨rfl,rfl,ha⟩|⟨rfl,rfl,hl⟩
  .have i:iq (d+1) (.mk false a [])=dec a.size++⟨#[58]⟩++a:=rfl;rw[i]at hz⊢;rw[mb,mb]at hz;have hc:=Lj a.size a8 a8;have m:=vO (a:=dec a.size) (b:=⟨#[58]⟩) a8;have n:=vO (a:=dec a.size++⟨#[58]⟩) (b:=a) (by rw[mb];omega);clear j i hz;refine aL Tryz.f381 ?_ [100001] [[4,1,3]];rw[lT]
   exact bL (ga @m @n) @hc
  .have p:bW (d+1) (.mk true ⟨#[]⟩ l)=1+(l.map (bW d)).sum:=rfl;have q:l.length<=(l.map (bW d)).sum:=uY _ λx o=>sV (hl x o);rw[p]at hn;have i:iq (d+1) (.mk true ⟨#[]⟩ l)=l.foldl (λs x=>s++iq d x) ⟨#[40]⟩++⟨#[41]⟩:=rfl;rw[i]at hz⊢;rw[mb]at hz;obtain⟨R,c⟩: ∃R,R=l.foldl (λs x=>s++iq d x) ⟨#[40]⟩:=⟨_,rfl⟩
   rw[<-c]at hz⊢;have n:=vO (a:=R) (b:=⟨#[41]⟩) a8;clear i p;refine aL Tryz.f381 ?_ [100001] [[4,1,3]];rw[lT];refine aC trivial trivial ?_;refine aZ.over l (λk (s:bb)=>[(4,iN k),(3,.d (.sc (.string s)))]) (λ_ _=>[]) (λr s=>r.foldl (λs x=>s++iq d x) s) R ⟨#[40]⟩ a8 aA aA rfl c (λk s x hg hk e t g=> ?_) (λs e g=> ?_)
   .have o:=hl x (bR hg);have f:=congrArg ByteArray.size g;rw[Ee]at f;simp only[bX,tV]at f;have hc:=j x o (by have:=zG (bW d) hg;omega) a8;have m:=vO (a:=s) (b:=iq d x) a8;rw[ig]at g;clear j f c;refine aC (ga @e (ga @t (ga @hg @m))) @hc ?_;exact⟨_,rfl,g⟩
   .rw[tT]at g;subst g;exact bL (ga @e @n) trivial
theorem Vp{d:Nat}{x:Sx}(hg:eX d x)(e:d<=12)(f:bW d x<=20000):aI Tryz.prog 380 [.agg (aj x)] (dI 0):=by
 have a:=Ll d x 20000 12 hg f a8 e a8;have b:=Lk d x hg (λ_=> .inr trivial) a8;have c: ¬(((bW d x:Nat):Int)>20000):=by omega
 refine aL Tryz.f380 ?_ [100001];exact bL @c (ga @a @b)
theorem Vq{d:Nat}{x:Sx}(hg:eX d x)(c:d<=12)(e:bW d x<=20000)(f:(iq d x).size<=1000000000000):aI Tryz.prog 301 [.agg (aj x)] (.tup [dS (iq d x),dI 0]):=by
 have a:=Vp hg c e;have b:=Lm d x hg a8 f;refine aL Tryz.f301 ?_ [100001];exact bL trivial (ga @a @b)
theorem CX{n:Int}{m:Nat}(h:n=m)(hm:m<18446744073709551616):Go.IntKind.u64.wrap n=(m:Int):=by
 subst h;simp only[Go.IntKind.wrap,Go.IntKind.bits,Go.IntKind.signed];have:((m:Int) % 2^64)=m:=by omega
 simp only[this];simp
theorem AL{a b:ByteArray}(h:a.size+b.size<=9223372036854775807):(((a.size+b.size:Nat):Int)<=9223372036854775807)=True:=by simp;omega
theorem qn(x:Int)(n:Nat)(b:n<=32):aI Tryz.prog 308 [.sc (.int .u32 x),.sc (.int .u64 n)] (.sc (.int .u32 (iW x n))):=by
 have a:IntKind.u64.wrap (32-(n:Int))=((32-n:Nat):Int):=CX a8 a8;refine aL Tryz.f308 ?_;refine aC @a trivial ?_
 all_goals rfl
theorem zZ: ∀n,(pA n).size=n
 |0=>rfl
 |n+1=>by rw[pA,mb,zZ n];rfl
theorem Vy(n:Nat)(g:n<=1000000):aI Tryz.prog 305 [dI n] (dS (pA n)):=by
 refine aL Tryz.f305 ?_ [] [[4,3,0]];refine aC trivial trivial ?_
 refine aZ.over (List.range n) (λk (_:Unit)=>[(4,iN k),(3,.d (.sc (.string (pA k))))]) (λ_ _=>[]) (λ_ _=>()) () () (by simp;omega) aA (by simp only[wy,qg,aE,reduceCtorEq,reduceIte,Nat.reduceAdd,Nat.reduceMul,Nat.reduceEqDiff,Nat.reduceLT,Nat.reduceLeDiff,Nat.reduceSub,ax,aD,aB,aw];rfl) rfl rfl (λk _ x hg hk c f e=> ?_) (λ_ c e=> ?_)
 .simp only[dX]at c hk;have hc:=AL (a:=pA k) (b:=⟨#[0]⟩) (by rw[zZ];show k+1<=_;omega);refine aC (ga @c (ga @f @hc)) trivial ?_;exact⟨(),rfl⟩
 .simp only[dX]at c;exact bL @c trivial
theorem Dx(n:Int):(ua n).size=1:=rfl
theorem PA{n:Int}(h:0<=n/\n<256):iS [.d (.sc (.int .u8 n))]=some [UInt8.ofNat n.toNat]:=by
 simp only[iS,so,h,and_self,if_true,eE,eY]
theorem Jg(s:bb): ∀(l:List Nat) (b:bb),(l.foldl (λout i=>out++ua (nz s i)) b).size=b.size+l.length
 |[],b=>rfl
 |i::l,b=>by rw[ig,Jg s l,mb,Dx,aY];omega
theorem KU(s:bb):(kT s).size=s.size+1+(120-(s.size+1) % 64) % 64+8:=by
 unfold kT;rw[Jg,mb,mb,zZ];rfl
set_option maxHeartbeats 1000000 in
theorem Vv(s:bb)(O:s.size<=1000000000):aI Tryz.prog 238 [dS s] (dS (kT s)):=by
 have q:=AL (a:=s) (b:=⟨#[128]⟩) (by show s.size+1<=_;omega);have p:(s++⟨#[128]⟩:ByteArray).size=s.size+1:=by rw[mb];rfl
 obtain⟨m,hm⟩: ∃m,m=s++(⟨#[128]⟩:ByteArray):=⟨_,rfl⟩
 rw[<-hm]at p;have f:((64:Int)≠0)=True:=by simp
 have t:Int.tmod (m.size:Int) 64=(((s.size+1) % 64:Nat):Int):=by rw[p,xC a8];omega
 have u:IntKind.i64.wrap (120-(((s.size+1) % 64:Nat):Int))=((120-(s.size+1) % 64:Nat):Int):=bN a8 a8;have w:Int.tmod ((120-(s.size+1) % 64:Nat):Int) 64=(((120-(s.size+1) % 64) % 64:Nat):Int):=by rw[xC a8];omega
 have hc:=Vy ((120-(s.size+1) % 64) % 64) a8;have y:=AL (a:=m) (b:=pA ((120-(s.size+1) % 64) % 64)) (by rw[zZ,p];omega);refine aL Tryz.f238 ?_ [100031] [[5,4,3]]
 repeat' first|simp only[<-hm]|refine ab (λ_=> ?_) λ_=> ?_|refine aG (ga @q (ga @f (ga @t (ga @u (ga @w @y))))) @hc ?_|exact aF (ga @q (ga @f (ga @t (ga @u (ga @w @y))))) @hc|fail
 obtain⟨g,c⟩: ∃g,g=m++pA ((120-(s.size+1) % 64) % 64):=⟨_,rfl⟩
 have M:g.size<=2000000000:=by rw[c,mb,zZ,p];omega
 have e:kT s=[7,6,5,4,3,2,1,0].foldl (λout i=>out++ua (nz s i)) g:=by rw[c,hm];rfl
 rw[<-c];obtain⟨L,o⟩: ∃L:List Nat,L=[7,6,5,4,3,2,1,0]:=⟨_,rfl⟩
 rw[<-o]at e;have K:L.length=8:=by rw[o];rfl
 have A: ∀k x,L[k]?=some x->x+k=7:=by
  subst o;intro k x h
  match k,h with
  |0,h|1,h|2,h|3,h|4,h|5,h|6,h|7,h=>simp at h;omega
  |k+8,h=>simp at h
 clear hm q f t u w y hc c o;refine aZ.overI L (λk (b:bb)=>[(5,.d (.sc (.int .i64 (7-(k:Int))))),(3,.d (.sc (.string b)))]) (λ_ _=>[]) (λr b=>r.foldl (λout i=>out++ua (nz s i)) b) (kT s) (λk b=>b.size<=2000000000+k) g a8 aA aA rfl e a8 (λk b x hg hk N P j J=> ?_) (λb N j J=> ?_)
 .have Q:=A k x hg;have l:decide (7-(k:Int)>=0)=true:=by simp;omega
  have C:IntKind.i64.wrap (8*(7-(k:Int)))=((8*x:Nat):Int):=bN a8 a8;have E:IntKind.u64.wrap ((8*x:Nat):Int)=((8*x:Nat):Int):=CX rfl a8;have F:IntKind.i64.wrap (7-(k:Int)-1)=7-((k+1:Nat):Int):=by
   simp only[IntKind.wrap,IntKind.bits,IntKind.signed];by_cases I:k=7
   .subst I;rfl
   .have:(7-(k:Int)-1) % 2^64=7-(k:Int)-1:=by omega
    simp only[this];simp;omega
  obtain⟨v,B⟩: ∃v,v=IntKind.u8.wrap ((IntKind.u64.wrap (IntKind.u64.wrap s.size*8)).fdiv (2^min (8*x) (IntKind.u64.bits))):=⟨_,rfl⟩
  have G:iS (List.map AV.d [[D.sc (.int .u8 v)]].flatten)=some [UInt8.ofNat v.toNat]:=PA (n:=v) (by rw[B];exact zK _);have z:ua (nz s x)=⟨[UInt8.ofNat v.toNat].toArray⟩:=by rw[B];rfl
  have H:=AL (a:=b) (b:=⟨[UInt8.ofNat v.toNat].toArray⟩) (by rw[<-z,Dx];omega);rw[ig,z]at j
  repeat' first|simp only[<-B]|refine ab (λ_=> ?_) λ_=> ?_|refine aG (ga @l (ga @C (ga @E (ga @F (ga @G @H))))) trivial ?_|exact aF (ga @l (ga @C (ga @E (ga @F (ga @G @H))))) trivial|fail
  exact⟨_,rfl,j,by rw[mb,<-z,Dx];omega⟩
 .have l:decide (7-((L.length:Nat):Int)>=0)=false:=by simp;omega
  rw[tT]at j;refine aC @l trivial ?_;rw[j]
theorem im{w:List Int}{i:Nat}(h:i<w.length):w[i]?=some (at_ w i):=by
 rw[at_,bQ h];rfl
theorem sq{s:bb}{i:Nat}(h:i<s.size): ∃b:UInt8,s[i]?=some b/\pO s i=b.toNat:=by
 have a:i<s.data.toList.length:=by rw[gJ];exact h
 refine⟨s.data.toList[i],by rw[sk,bQ a],?_⟩;rw[pO,bQ a]
theorem zT{n:Nat}(h:n<256):IntKind.u32.wrap (n:Int)=(n:Int):=by
 simp only[IntKind.wrap,IntKind.bits,IntKind.signed];have:(n:Int) % 2^32=n:=by omega
 simp only[this];simp
theorem G2(s:bb): ∀(l:List Nat) (w:List Int),(uR s l w).length=w.length
 |[],w=>rfl
 |t::l,w=>by rw[uR,ig];exact(G2 s l _).trans (by simp)
theorem G3: ∀(l:List Nat) (w:List Int),(uS l w).length=w.length
 |[],w=>rfl
 |t::l,w=>by rw[uS,ig];exact(G3 l _).trans (by simp)
set_option maxHeartbeats 2000000 in
theorem Vw(s:bb)(W:s.size=64):aI Tryz.prog 306 [dS s] (.agg (bx .u32 (sched s))):=by
 refine aL Tryz.f306 ?_ [300008] [[4,3,0,2],[5,3,2]]
 repeat' first|refine ab (λ_=> ?_) λ_=> ?_|refine aH ?_|simp only[z64,mL (gH ..),aM,ff,gH,wy,qg,aE,reduceCtorEq,reduceIte,Nat.reduceAdd,Nat.reduceMul,Nat.reduceEqDiff,Nat.reduceLT,Nat.reduceLeDiff,Nat.reduceSub,ax,aD,aB,aw]
 refine aZ.overI (List.range' 0 16) (λk (w:List Int)=>[(4,iN k)]) (λk w=>[.cells ((bx .u32 (List.replicate 64 0)).map .d),.cells ((bx .u32 w).map .d)]) (λr w=>uR s r w) (uR s (List.range' 0 16) (List.replicate 64 0)) (λk w=>w.length=64) (List.replicate 64 0) (by decide) aA aA rfl rfl (by simp) (λk w x hg hk e y b c=> ?_) (λw e b c=> ?_)
 .simp only[lk]at hk e;obtain rfl:k=x:=by rw[List.getElem?_range' a8]at hg;simpa using hg
  obtain⟨H,K,m0⟩:=sq (s:=s) (i:=4*k) a8;obtain⟨I,L,O⟩:=sq (s:=s) (i:=4*k+1) a8;obtain⟨J,n,P⟩:=sq (s:=s) (i:=4*k+2) a8;obtain⟨b3,M,Q⟩:=sq (s:=s) (i:=4*k+3) a8;have R:IntKind.i64.wrap (4*(k:Int))=((4*k:Nat):Int):=bN a8 a8
  have A:IntKind.i64.wrap (((4*k:Nat):Int)+1)=((4*k+1:Nat):Int):=bN a8 a8;have D:IntKind.i64.wrap (((4*k:Nat):Int)+2)=((4*k+2:Nat):Int):=bN a8 a8;have S:IntKind.i64.wrap (((4*k:Nat):Int)+3)=((4*k+3:Nat):Int):=bN a8 a8;have v0:=zT H.toNat_lt;have V:=zT I.toNat_lt;have v2:=zT J.toNat_lt
  have v3:=zT b3.toNat_lt;have f:(k:Int)<16:=by omega
  have t:((k:Int)<64)=True:=by simp;omega
  have a:=λv=>ox (k:= .u32) (l:=w) (i:=k) a8 v
  repeat' first|refine ab (λ_=> ?_) λ_=> ?_|refine aH ?_|simp only[f,t,y,R,A,D,S,K,L,n,M,v0,V,v2,v3,a,Int.reduceLE,Int.reduceLT,Int.reduceGE,Int.reduceGT,Int.reduceEq,Int.reduceNe,Int.reduceBEq,Int.reduceBNe,decide_true,decide_false,wy,qg,aE,reduceCtorEq,reduceIte,Nat.reduceAdd,Nat.reduceMul,Nat.reduceEqDiff,Nat.reduceLT,Nat.reduceLeDiff,Nat.reduceSub,ax,aD,aB,aw]
  exact⟨w.set k (tL s k),by rw[tL,m0,O,P,Q];rfl,b,by simp[c]⟩
 .repeat' first|refine ab (λ_=> ?_) λ_=> ?_|refine aH ?_|simp only[lk,n0,decide_false,wy,qg,aE,reduceCtorEq,reduceIte,Nat.reduceAdd,Nat.reduceMul,Nat.reduceEqDiff,Nat.reduceLT,Nat.reduceLeDiff,Nat.reduceSub,ax,aD,aB,aw]
  obtain⟨h,p⟩: ∃h,h=uR s (List.range' 0 16) (List.replicate 64 0):=⟨_,rfl⟩
  have G:sched s=uS (List.range' 16 48) h:=by rw[p];rfl
  have z:w=h:=by rw[p,b];rfl
  subst z;clear p b e;refine aZ.overI (List.range' 16 48) (λk (w:List Int)=>[(5,iN (16+k))]) (λk w=>[.cells ((bx .u32 (List.replicate 64 0)).map .d),.cells ((bx .u32 w).map .d)]) (λr w=>uS r w) (sched s) (λk w=>w.length=64) w (by decide) aA aA rfl G c (λk w x hg hk e y b c=> ?_) (λw e b c=> ?_)
  .simp only[lk]at hk e;obtain rfl:x=16+k:=by rw[List.getElem?_range' a8]at hg;simp at hg;omega
   clear G hg e;have f:(((16+k:Nat):Int)<64)=True:=by simp;omega
   have B:IntKind.i64.wrap (((16+k:Nat):Int)-15)=((k+1:Nat):Int):=bN a8 a8;have D:IntKind.i64.wrap (((16+k:Nat):Int)-2)=((k+14:Nat):Int):=bN a8 a8;have T:IntKind.i64.wrap (((16+k:Nat):Int)-7)=((k+9:Nat):Int):=bN a8 a8;have C:IntKind.i64.wrap (((16+k:Nat):Int)-16)=(k:Int):=bN a8 a8
   have A:IntKind.i64.wrap (((16+k:Nat):Int)+1)=((16+(k+1):Nat):Int):=bN a8 a8;have E:(((k+1:Nat):Int)<64)=True:=by simp;omega
   have r2:(((k+14:Nat):Int)<64)=True:=by simp;omega
   have U:(((k+9:Nat):Int)<64)=True:=by simp;omega
   have F:((k:Int)<64)=True:=by simp;omega
   have j:=im (w:=w) (i:=k+1) a8;have n:=im (w:=w) (i:=k+14) a8;have N:=im (w:=w) (i:=k+9) a8;have m:=im (w:=w) (i:=k) a8;have a:=λv=>ox (k:= .u32) (l:=w) (i:=16+k) a8 v;have o:sched s=uS (List.drop (k+1) (List.range' 16 48)) (w.set (16+k) (rR w (16+k))):=b
   have q:rR w (16+k)=aW (aW (aW (jv (jv (iW (at_ w (k+14)) 17) (iW (at_ w (k+14)) 19)) (shr (at_ w (k+14)) 10)) (at_ w (k+9))) (jv (jv (iW (at_ w (k+1)) 7) (iW (at_ w (k+1)) 18)) (shr (at_ w (k+1)) 3))) (at_ w k):=by
    rw[rR,show 16+k-2=k+14 by omega,show 16+k-7=k+9 by omega,show 16+k-15=k+1 by omega,show 16+k-16=k by omega]
   clear b y
   repeat' first|refine ab (λ_=> ?_) λ_=> ?_|refine aH ?_|refine af.data (qn _ 17 (by decide)) rfl ?_|refine af.data (qn _ 19 (by decide)) rfl ?_|refine af.data (qn _ 7 (by decide)) rfl ?_|refine af.data (qn _ 18 (by decide)) rfl ?_|simp only[f,B,D,T,C,A,E,r2,U,F,j,n,N,m,pk,a,Int.reduceLE,Int.reduceLT,Int.reduceGE,Int.reduceGT,Int.reduceEq,Int.reduceNe,Int.reduceBEq,Int.reduceBNe,decide_true,decide_false,wy,qg,aE,reduceCtorEq,reduceIte,Nat.reduceAdd,Nat.reduceMul,Nat.reduceEqDiff,Nat.reduceLT,Nat.reduceLeDiff,Nat.reduceSub,ax,aD,aB,aw]
   exact⟨w.set (16+k) (rR w (16+k)),by rw[q];rfl,o,by simp[c]⟩
  .rw[lk]at*;have u:sched s=w:=b;have g:(bx .u32 w).take 64=bx .u32 w:=dL (by rw[ff,c];decide)
   repeat' first|refine ab (λ_=> ?_) λ_=> ?_|refine aH ?_|simp only[Int.reduceLE,Int.reduceLT,Int.reduceGE,Int.reduceGT,Int.reduceEq,Int.reduceNe,Int.reduceBEq,Int.reduceBNe,decide_true,decide_false,g,lk,mL (gH ..),aM,ff,c,wy,qg,aE,reduceCtorEq,reduceIte,Nat.reduceAdd,Nat.reduceMul,Nat.reduceEqDiff,Nat.reduceLT,Nat.reduceLeDiff,Nat.reduceSub,ax,aD,aB,aw]
   rw[u]
theorem PD(a b:Int):mn a b=mn b a:=by unfold mn;rw[BitVec.or_comm]
theorem Yp(n:Nat)(a:1<=n)(b:n<=31):IntKind.u64.wrap (BitVec.ofInt IntKind.u64.bits (IntKind.u64.wrap (-(n:Int)))&&&BitVec.ofInt IntKind.u64.bits 31).toNat=((32-n:Nat):Int):=by
 have h: ∀n:Fin 32,1<=n.1->IntKind.u64.wrap (BitVec.ofInt IntKind.u64.bits (IntKind.u64.wrap (-(n.1:Int)))&&&BitVec.ofInt IntKind.u64.bits 31).toNat=((32-n.1:Nat):Int):=by decide
 exact h ⟨n,by omega⟩ a
theorem Yq(x:Int)(n:Nat)(a:1<=n)(b:n<=31):aI Tryz.prog 386 [.sc (.int .u32 x),.sc (.int .i64 (-(n:Int)))] (.sc (.int .u32 (iW x n))):=by
 have ha:=Yp n a b;have c:IntKind.u64.wrap (32-((32-n:Nat):Int))=(n:Int):=CX a8 a8;refine aL Tryz.f386 ?_;refine aC (ga @ha @c) trivial ?_
 all_goals(rw[iW,PD];rfl)
theorem qA(x:Int)(n:Nat)(b:1<=n)(c:n<=31):aI Tryz.prog 327 [.sc (.int .u32 x),.sc (.int .i64 n)] (.sc (.int .u32 (iW x n))):=by
 have a:=Yq x n b c;have d:IntKind.i64.wrap (-(n:Int))= -(n:Int):=by
  simp only[IntKind.wrap,IntKind.bits,IntKind.signed];have:(-(n:Int)) % 2^64=2^64-n:=by omega
  simp only[this];simp;omega
 refine aL Tryz.f327 ?_;exact bL @d @a
def tM(s:bb)(w:List Int)(t:Nat):List Int:=if t<16 then w.set t (tL s t)else w.set t (rR w t)
theorem YB(s:bb):(List.range' 0 64).foldl (tM s) (List.replicate 64 0)=sched s:=by
 have h:List.range' 0 64=List.range' 0 16++List.range' 16 48:=by decide
 have d: ∀(l:List Nat) (w:List Int),(∀t∈l,t<16)->l.foldl (tM s) w=uR s l w:=by
  intro l
  induction l with
  |nil=>intro w _;rfl
  |cons t l c=>
   intro w a;rw[ig,c _ λt b=>a t (by simp[b]),tM,if_pos (a t (by simp))];rfl
 have e: ∀(l:List Nat) (w:List Int),(∀t∈l,16<=t)->l.foldl (tM s) w=uS l w:=by
  intro l
  induction l with
  |nil=>intro w _;rfl
  |cons t l c=>
   intro w a;have:=a t (by simp);rw[ig,c _ λt b=>a t (by simp[b]),tM,if_neg a8];rfl
 rw[h,List.foldl_append,d (List.range' 0 16) _ (by decide),e (List.range' 16 48) _ (by decide)];rfl
def Dw(b:UInt8):Int:=b.toNat
def yG(x:Int)(l:List UInt8):Int:=l.foldl (λv b=>mn (shl v 8) (Dw b)) x
abbrev bv(x:Int):BitVec 32:=BitVec.ofInt 32 x
theorem Hq(y:Int):bv (j5.wrap y)=bv y:=by
 apply BitVec.eq_of_toNat_eq;simp only[bv,BitVec.toNat_ofInt,IntKind.wrap,IntKind.bits,IntKind.signed];simp
theorem PX(x:BitVec 32):bv (x.toNat:Int)=x:=by
 apply BitVec.eq_of_toNat_eq;simp only[bv,BitVec.toNat_ofInt];have:=x.isLt;omega
theorem PC(a b:Int):bv (mn a b)=bv a|||bv b:=by
 unfold mn;rw[Hq];exact PX _
theorem PY(n:Nat):bv ((2:Int)^n)=BitVec.twoPow 32 n:=by
 apply BitVec.eq_of_toNat_eq;have h:((2:Int)^n)=((2^n:Nat):Int):=by simp
 rw[bv,h,BitVec.toNat_ofInt,BitVec.toNat_twoPow];omega
theorem Ga(x:Int)(n:Nat)(a:n<=32):bv (shl x n)=bv x<<<n:=by
 unfold shl;rw[Hq,BitVec.shiftLeft_eq_mul_twoPow,qO (show n<=j5.bits from a),bv,BitVec.ofInt_mul,<-PY]
theorem PE{a b c d:Int}(h:bv a|||bv b=bv c|||bv d):mn a b=mn c d:=by
 have e: ∀a b,mn a b=j5.wrap ((bv a|||bv b).toNat:Int):=λa b=>rfl;rw[e,e,h]
theorem Sz(s:bb)(k:Nat)(a b c b3:UInt8)(m0:pO s (4*k)=a.toNat)(d:pO s (4*k+1)=b.toNat)(e:pO s (4*k+2)=c.toNat)(f:pO s (4*k+3)=b3.toNat):yG 0 [a,b,c,b3]=tL s k:=by
 unfold tL yG Dw;rw[m0,d,e,f];simp only[ig,tT];refine PE ?_;congr 1;simp only[PC,Ga _ _ (show 8<=32 by decide),Ga _ _ (show 16<=32 by decide),Ga _ _ (show 24<=32 by decide),BitVec.shiftLeft_or_distrib];have h0:bv 0<<<8<<<8<<<8<<<8=0#32:=by decide
 rw[h0,BitVec.zero_or];simp only[<-BitVec.shiftLeft_add]
theorem Pt{w:List Int}{k:Nat}(h:k<w.length)(x:Int):at_ (w.set k x) k=x:=by
 rw[at_,ej h];rfl
theorem YI{w:List Int}{k:Nat}(h:k<w.length):w.set k (at_ w k)=w:=by
 apply gW;intro i;by_cases e:k=i
 .subst e;rw[ej h,im h]
 .rw[bC e]
theorem RL{s:bb}{k:Nat}(h:4*k+4<=s.size): ∃a b c b3:UInt8,Go.Bb.bytesRow (s.extract (4*k) (4*k+4))=[a,b,c,b3].map (λx=>[D.sc (.int .u8 x.toNat)])/\tL s k=yG 0 [a,b,c,b3]:=by
 obtain⟨a,d,m0⟩:=sq (s:=s) (i:=4*k) a8;obtain⟨b,e,l⟩:=sq (s:=s) (i:=4*k+1) a8;obtain⟨c,f,m⟩:=sq (s:=s) (i:=4*k+2) a8;obtain⟨b3,g,n⟩:=sq (s:=s) (i:=4*k+3) a8;refine⟨a,b,c,b3,?_,(Sz s k a b c b3 m0 l m n).symm⟩;unfold Go.Bb.bytesRow;congr 1;rw[sk]at d e f g;apply gW;intro i
 have j:(s.extract (4*k) (4*k+4)).data.toList=(s.data.toList.drop (4*k)).take 4:=by
  rw[ByteArray.data_extract,Array.toList_extract,List.extract_eq_take_drop];congr 1;omega
 rw[j]
 match i with
 |0=>rw[s6 a8,gf];exact d
 |1=>rw[s6 a8,gf];exact e
 |2=>rw[s6 a8,gf];exact f
 |3=>rw[s6 a8,gf];exact g
 |i+4=>rw[fL,if_neg a8];rfl
set_option maxHeartbeats 2000000 in
theorem YV(s:bb)(hs:s.size=64):aI Tryz.prog 325 [dS s] (.agg (bx .u32 (sched s))):=by
 have O:=YB s;refine aL Tryz.f325 ?_ [] [[9,3,0,2],[23,3,4,21,9,0,2,22]]
 repeat' first|refine ab (λ_=> ?_) λ_=> ?_|refine aH ?_|simp only[z64,mL (gH ..),aM,ff,gH,wy,qg,aE,reduceCtorEq,reduceIte,Nat.reduceAdd,Nat.reduceMul,Nat.reduceEqDiff,Nat.reduceLT,Nat.reduceLeDiff,Nat.reduceSub,ax,aD,aB,aw]
 refine aZ.overI (List.range' 0 64) (λk (w:List Int)=>[(9,iN k)]) (λk w=>[.cells ((bx .u32 (List.replicate 64 0)).map .d),.cells ((bx .u32 w).map .d)]) (λr w=>r.foldl (tM s) w) (sched s) (λk w=>w.length=64/\ ∀i,k<=i->i<16->at_ w i=0) (List.replicate 64 0) (by decide) aA aA rfl O.symm ⟨by simp,λi _ hi=>by rw[at_,pG,if_pos a8];rfl⟩ (λk w x hg hk D G h f=> ?_) (λw D h f=> ?_)
 .obtain⟨f,Q⟩:=f;simp only[lk]at hk D;obtain rfl:k=x:=by rw[List.getElem?_range' a8]at hg;simpa using hg
  clear O hg D;rw[ig]at h;have p:((k:Int)<64)=True:=by simp;omega
  have c:=λv=>ox (k:= .u32) (l:=w) (i:=k) a8 v;by_cases e:k<16
  .rw[tM,if_pos e]at h;have o:((k:Int)<16)=True:=by simp;omega
   have R:IntKind.i64.wrap (4*(k:Int))=((4*k:Nat):Int):=bN a8 a8;have S:IntKind.i64.wrap (((4*k:Nat):Int)+4)=((4*k+4:Nat):Int):=bN a8 a8;have T:(((4*k:Nat):Int)<=((4*k+4:Nat):Int))=True:=by simp;omega
   have U:(((4*k+4:Nat):Int)<=(s.size:Int))=True:=by simp;omega
   have V:((s.extract (4*k) (4*k+4)).size<=140737488355328)=True:=by simp;omega
   obtain⟨W,X,Y,b3,y,P⟩:=RL (s:=s) (k:=k) a8;obtain⟨L,B⟩: ∃L,L=[W,X,Y,b3]:=⟨_,rfl⟩
   have a0:L.length=4:=by rw[B];rfl
   rw[<-B]at y P;have Z:=Q k (bg _) e;have H:at_ w k=0:=Z;clear B
   repeat' first|refine ab (λ_=> ?_) λ_=> ?_|refine aH ?_|simp only[o,p,R,S,T,U,V,y,G,Int.reduceLE,Int.reduceLT,Int.reduceGE,Int.reduceGT,Int.reduceEq,Int.reduceNe,Int.reduceBEq,Int.reduceBNe,decide_true,decide_false,wy,qg,aE,reduceCtorEq,reduceIte,Nat.reduceAdd,Nat.reduceMul,Nat.reduceEqDiff,Nat.reduceLT,Nat.reduceLeDiff,Nat.reduceSub,ax,aD,aB,aw]
   refine aZ.overI L (λm (b:List Int)=>[(23,iN m)]) (λm b=>[.cells ((bx .u32 (List.replicate 64 0)).map .d),.cells ((bx .u32 b).map .d)]) (λr b=>b.set k (yG (at_ b k) r)) (w.set k (tL s k)) (λm b=>b.length=64) w a8 aA aA rfl (by rw[P,H]) f (λm b x E hm n I a g=> ?_) (λb n a g=> ?_)
   .have v0:=zT x.toNat_lt;have q:=λv=>ox (k:= .u32) (l:=b) (i:=k) a8 v;have g1:=im (w:=b) (i:=k) a8;clear y R S T U V c
    repeat' first|refine ab (λ_=> ?_) λ_=> ?_|refine aH ?_|simp only[p,n,I,E,v0,g1,pk,q,Int.reduceToNat,Int.reduceLE,Int.reduceLT,Int.reduceGE,Int.reduceGT,Int.reduceEq,Int.reduceNe,Int.reduceBEq,Int.reduceBNe,decide_true,decide_false,wy,qg,aE,reduceCtorEq,reduceIte,Nat.reduceAdd,Nat.reduceMul,Nat.reduceEqDiff,Nat.reduceLT,Nat.reduceLeDiff,Nat.reduceSub,ax,aD,aB,aw]
    refine⟨b.set k (mn (shl (at_ b k) 8) (Dw x)),rfl,?_,by simp[g]⟩;rw[a,Pt a8,List.set_set];rfl
   .rw[yG,tT,YI a8]at a;clear y
    repeat' first|refine ab (λ_=> ?_) λ_=> ?_|refine aH ?_|simp only[n,G,Int.reduceLE,Int.reduceLT,Int.reduceGE,Int.reduceGT,Int.reduceEq,Int.reduceNe,Int.reduceBEq,Int.reduceBNe,decide_true,decide_false,wy,qg,aE,reduceCtorEq,reduceIte,Nat.reduceAdd,Nat.reduceMul,Nat.reduceEqDiff,Nat.reduceLT,Nat.reduceLeDiff,Nat.reduceSub,ax,aD,aB,aw]
    refine⟨b,rfl,by rw[h,a],g,λi hi u=> ?_⟩;rw[<-a,at_,bC a8];exact Q i a8 u
  .rw[tM,if_neg e]at h;have o:((k:Int)<16)=False:=by simp;omega
   obtain⟨j,rfl⟩: ∃j,k=j+16:=⟨k-16,by omega⟩
   have J:IntKind.i64.wrap (((j+16:Nat):Int)-15)=((j+1:Nat):Int):=bN a8 a8;have q2:IntKind.i64.wrap (((j+16:Nat):Int)-2)=((j+14:Nat):Int):=bN a8 a8;have q7:IntKind.i64.wrap (((j+16:Nat):Int)-7)=((j+9:Nat):Int):=bN a8 a8;have K:IntKind.i64.wrap (((j+16:Nat):Int)-16)=(j:Int):=bN a8 a8
   have M:(((j+1:Nat):Int)<64)=True:=by simp;omega
   have r2:(((j+14:Nat):Int)<64)=True:=by simp;omega
   have r7:(((j+9:Nat):Int)<64)=True:=by simp;omega
   have N:((j:Int)<64)=True:=by simp;omega
   have z:=im (w:=w) (i:=j+1) a8;have g2:=im (w:=w) (i:=j+14) a8;have g7:=im (w:=w) (i:=j+9) a8;have A:=im (w:=w) (i:=j) a8
   have C:rR w (j+16)=aW (aW (aW (jv (jv (iW (at_ w (j+14)) 17) (iW (at_ w (j+14)) 19)) (shr (at_ w (j+14)) 10)) (at_ w (j+9))) (jv (jv (iW (at_ w (j+1)) 7) (iW (at_ w (j+1)) 18)) (shr (at_ w (j+1)) 3))) (at_ w j):=by
    rw[rR,show j+16-2=j+14 by omega,show j+16-7=j+9 by omega,show j+16-15=j+1 by omega,show j+16-16=j by omega]
   repeat' first|refine ab (λ_=> ?_) λ_=> ?_|refine aH ?_|refine af.data (qA _ 17 (by decide) (by decide)) rfl ?_|refine af.data (qA _ 19 (by decide) (by decide)) rfl ?_|refine af.data (qA _ 7 (by decide) (by decide)) rfl ?_|refine af.data (qA _ 18 (by decide) (by decide)) rfl ?_|simp only[o,p,J,q2,q7,K,M,r2,r7,N,z,g2,g7,A,G,pk,c,Int.reduceToNat,Int.reduceLE,Int.reduceLT,Int.reduceGE,Int.reduceGT,Int.reduceEq,Int.reduceNe,Int.reduceBEq,Int.reduceBNe,decide_true,decide_false,wy,qg,aE,reduceCtorEq,reduceIte,Nat.reduceAdd,Nat.reduceMul,Nat.reduceEqDiff,Nat.reduceLT,Nat.reduceLeDiff,Nat.reduceSub,ax,aD,aB,aw]
   exact⟨w.set (j+16) (rR w (j+16)),by rw[C];rfl,h,by simp[f],λi hi u=>by omega⟩
 .rw[lk]at*;have F:sched s=w:=h;have t:(bx .u32 w).take 64=bx .u32 w:=dL (by rw[ff,f.1];decide)
  repeat' first|refine ab (λ_=> ?_) λ_=> ?_|refine aH ?_|simp only[Int.reduceLE,Int.reduceLT,Int.reduceGE,Int.reduceGT,Int.reduceEq,Int.reduceNe,Int.reduceBEq,Int.reduceBNe,decide_true,decide_false,t,lk,mL (gH ..),aM,ff,f.1,wy,qg,aE,reduceCtorEq,reduceIte,Nat.reduceAdd,Nat.reduceMul,Nat.reduceEqDiff,Nat.reduceLT,Nat.reduceLeDiff,Nat.reduceSub,ax,aD,aB,aw]
  rw[F]
end Go.Proofs.Q
