/- Part of a proof. -/
import Derived.Test.YtfoljakejdgfcaaGreatDoorPAL
import Derived.Test.YtfoljakejdgfcaaGreatDoorV2
import Derived.Test.YtfoljakejdgfcaaGreatDoorPAM
set_option linter.unusedVariables false
set_option linter.unusedSimpArgs false
namespace Go.Proofs.Q
open Go Go.Bb Go.RowKit Go.Proofs.Lg
open Go.Ab (D RD)
theorem qh: ∀{d:Nat} {x:Sx},eW d x→1≤bG d x
 |0,_,h=>h.elim
 |d+1,.mk b a l,h=>by unfold bG;split<;>omega
theorem wB{α:Type}(f:α→Nat): ∀{l:List α} {k:Nat} {x:α},l[k]?=some x→f x≤(l.map f).sum
 |y::l,0,x,h=>by simp at h;subst h;simp
 |y::l,k+1,x,h=>by have:=wB f (l:=l) (k:=k) (x:=x) (by simpa using h);simp;omega
theorem sG{α:Type}(f:α→Nat): ∀{l:List α},(∀x∈l,1≤f x)→l.length≤(l.map f).sum
 |[],_=>by simp
 |y::l,h=>by
  have:=sG f (l:=l) fun x a=>h x (jS _ a);have:=h y (by simp);simp;omega
theorem lT{n:Int}{m:Nat}(h:n=m)(hm:m<9223372036854775808):IntKind.i64.wrap n=(m:Int):=ck h hm
theorem mn{a b:ByteArray}(h:a.size+b.size≤9223372036854775807):(((a.size+b.size:Nat):Int)≤9223372036854775807)=True:=by simp;omega
theorem eW.mem{d:Nat}{a:aZ}{l:List Sx}(h:eW (d+1) (.mk true a l)){k:Nat}{x:Sx}(hg:l[k]?=some x):eW d x:=by
 rcases h with⟨h,_⟩|⟨_,_,h⟩
 ·cases h
 ·exact h x (bT hg)
set_option maxHeartbeats 1000000 in
theorem JW: ∀(d:Nat) (x:Sx) (c D:Nat),eW d x→bG d x≤c→c≤1000000000→d≤D→D≤1000→aE Tryz.prog 265 [.agg (ae x),dI c,dI D] (dI (bG d x))
 |0,_,_,_,h,_,_,_,_=>h.elim
 |d+1,.mk b a l,c,D,hg0,hn,hlim,hd,hD=>by
  have j: ¬((D:Int)<1):=by omega
  have y:=qh hg0;have m: ¬((c:Int)<1):=by omega
  have p:=JW d;refine aI (F:=zP) SD (by simp[zP]) ?_;simp only[zP];rw[jj]
  repeat' first|refine ak (fun _=> ?_) fun _=> ?_|refine bb (ga @j @m) trivial ?_|exact ba (ga @j @m) trivial|fail
  ·rename_i hb;subst hb;have q:bG (d+1) (.mk true a l)=1+(l.map (bG d)).sum:=rfl;have f:l.length≤(l.map (bG d)).sum:=sG _ fun x o=>by
    obtain⟨k,s⟩:=jR o;exact qh (hg0.mem s)
   rw[q]at hn⊢;refine aX.over l (fun k (n:Nat)=>[(8,iN k),(7,iN n)]) (fun _ _=>[]) (fun r n=>n+(r.map (bG d)).sum) (1+(l.map (bG d)).sum) 1 a8 aA aA rfl rfl (fun k n x hg s e z i=> ?_) (fun n e i=> ?_)
   ·have o:=hg0.mem hg;have g:((x::l.drop (k+1)).map (bG d)).sum=bG d x+((l.drop (k+1)).map (bG d)).sum:=by simp
    rw[g]at i;have t:decide ((n:Int)≤(c:Int))=true:=by simp;omega
    have u:IntKind.i64.wrap ((c:Int)-n)=((c-n:Nat):Int):=lT a8 a8;have v:IntKind.i64.wrap ((D:Int)-1)=((D-1:Nat):Int):=lT a8 a8;have w:IntKind.i64.wrap ((n:Int)+bG d x)=((n+bG d x:Nat):Int):=lT a8 a8;have hc:=p x (c-n) (D-1) o a8 a8 a8 a8;clear p q f y j m
    refine aw (ga @e (ga @z (ga @hg (ga @t (ga @u (ga @v @w)))))) @hc ?_;exact⟨n+bG d x,rfl,by omega⟩
   ·refine aw @e trivial ?_;simp at i;rw[i]
  ·rename_i hb;subst hb;rfl
theorem JV: ∀(d:Nat) (x:Sx),eW d x→(∀l:List Sx,l.length≤0∨True)→bG d x≤1000000000→aE Tryz.prog 266 [.agg (ae x)] (dI 0)
 |0,_,h,_,_=>h.elim
 |d+1,.mk b a l,hg0,_,hn=>by
  have f:=JV d;rcases id hg0 with⟨rfl,rfl,ha⟩|⟨rfl,rfl,hl⟩
  ·have i:decide ((a.size:Int)>65536)=false:=by simp;omega
   refine aI (F:=rM) J4 (by simp[rM]) ?_;simp only[rM];rw[jj]
   repeat' first|refine ak (fun _=> ?_) fun _=> ?_|refine aD ?_|simp only[i,gt_iff_lt,kI,decide_false,wy,qg,aC,reduceCtorEq,reduceIte,Nat.reduceAdd,Nat.reduceMul,Nat.reduceEqDiff,Nat.reduceLT,Nat.reduceLeDiff,Nat.reduceSub,ax,aB,ay,au]
  ·have j:bG (d+1) (.mk true ⟨#[]⟩ l)=1+(l.map (bG d)).sum:=rfl;have g:l.length≤(l.map (bG d)).sum:=sG _ fun x e=>qh (hl x e);rw[j]at hn;refine aI (F:=rM) J4 (by simp[rM]) ?_;simp only[rM];rw[jj];refine aw @jY trivial ?_
   refine aX.over l (fun k (_:Unit)=>[(3,iN k)]) (fun _ _=>[]) (fun _ _=>()) () () a8 aA aA rfl rfl (fun k _ x hg n c m _=> ?_) (fun _ c _=> ?_)
   ·have e:=hl x (bT hg);have hc:=f x e (fun _=> .inr trivial) (by have:=wB (bG d) hg;omega);clear f;refine aw (ga @c (ga @m @hg)) @hc ?_;exact⟨(),trivial⟩
   ·repeat' first|refine ak (fun _=> ?_) fun _=> ?_|refine bb @c trivial ?_|exact ba @c trivial|fail
theorem Lr(a b:List UInt8):str a++str b=str (a++b):=by
 unfold str;apply ByteArray.ext;simp[uE]
theorem p8(a:List UInt8):(str a).size=a.length:=by unfold str;simp[ByteArray.size]
theorem v8: ∀f n,(kg f n).length≤f+1
 |0,n=>by simp[kg]
 |f+1,n=>by
  unfold kg;split
  ·simp
  ·have:=v8 f (n/10);simp;omega
theorem Ha(n:Nat):UInt8.ofNat (IntKind.u8.wrap (48+((n % 10:Nat):Int))).toNat=oB n:=by
 have h:IntKind.u8.wrap (48+((n % 10:Nat):Int))=((48+n % 10:Nat):Int):=by
  simp only[IntKind.wrap,IntKind.bits,IntKind.signed];have:(48+((n % 10:Nat):Int)) % 2^8=((48+n % 10:Nat):Int):=by omega
  simp only[this];simp
 rw[h,gW,oB]
theorem G6(o:Option aa){n:Int}(h:(0≤n∧n<256)=True):qx o (.d (.sl 1 [[.sc (.int .u8 n)]]))=some (str [UInt8.ofNat n.toNat]):=by
 show(gl [.d (.sc (.int .u8 n))]).map _=_;simp only[gl,pL,h,if_true,dF,eY];rfl
theorem LJ(n:Int):(0≤IntKind.u8.wrap n∧IntKind.u8.wrap n<256)=True:=by
 simp only[IntKind.wrap,IntKind.bits,IntKind.signed];have a:0≤n % 2^8:=Int.emod_nonneg _ (by decide);have b:n % 2^8<2^8:=Int.emod_lt_of_pos _ (by decide);simp;omega
set_option maxHeartbeats 1000000 in
theorem Eg: ∀(f n:Nat),n<10^(f+1)→f≤19→n≤9223372036854775807→aE Tryz.prog 267 [dI n] (dS (str (kg f n)))
 |f,n,hn,hf,hm=>by
  have l:=fun m (h:m<f)=>Eg m (n/10);have h0: ¬((n:Int)<0):=by omega
  have s:kg f n=if n<10 then[oB n]else kg (f-1) (n/10)++[oB n]:=by
   cases f with
   |zero=>rw[if_pos (by simpa using hn)];rfl
   |succ f=>rfl
  rw[s];by_cases h:n<10
  ·have d:(n:Int)<10:=by omega
   have o:=Ha n;have j:n % 10=n:=Nat.mod_eq_of_lt h;rw[j]at o;have t:IntKind.i64.wrap (48+(n:Int))=((48+n:Nat):Int):=lT a8 a8;refine aI (F:=nu) E3 (by simp[nu]) ?_;simp only[nu];have hb:=G6 none (LJ ((48+n:Nat):Int));refine aw (ga @h0 (ga @d (ga @t @hb))) trivial ?_
   have c:((48+n:Nat):Int)=48+(n:Int):=by omega
   rw[if_pos h,c,o]
  ·have d: ¬(n:Int)<10:=by omega
   have i:f-1<f:=by
    cases f with
    |zero=>simp at hn;omega
    |succ f=>omega
   have p:IntKind.i64.wrap (Int.tdiv (n:Int) 10)=((n/10:Nat):Int):=lT (by rw[Int.tdiv_eq_ediv_of_nonneg a8];omega) a8;have q:Int.tmod (n:Int) 10=((n % 10:Nat):Int):=by rw[uI a8];omega
   have r:IntKind.i64.wrap (48+((n % 10:Nat):Int))=((48+n % 10:Nat):Int):=lT a8 a8;have hc:=l (f-1) i (by
    obtain⟨g,rfl⟩: ∃g,f=g+1:=⟨f-1,by omega⟩
    rw[Nat.pow_succ]at hn;simp only[Nat.add_sub_cancel];omega) a8 a8
   clear l;refine aI (F:=nu) E3 (by simp[nu]) ?_;simp only[nu];have hb:=G6 none (LJ ((48+n % 10:Nat):Int));have k:=mn (a:=str (kg (f-1) (n/10))) (b:=str [UInt8.ofNat (IntKind.u8.wrap ((48+n % 10:Nat):Int)).toNat]) (by rw[p8,p8];have:=v8 (f-1) (n/10);simp;omega);have e:((10:Int)≠0)=True:=by simp
   refine aw (ga @h0 (ga @d (ga @e (ga @p (ga @q (ga @r (ga @hb @k))))))) @hc ?_;have c:((48+n % 10:Nat):Int)=48+((n % 10:Nat):Int):=by omega
   rw[if_neg h,c,Ha,Lr]
termination_by f=>f
theorem JU(n:Int)(f: -1099511627776≤n)(g:n≤1099511627776):aE Tryz.prog 267 [dI n] (dS (dec n)):=by
 unfold dec;by_cases h:n<0
 ·have d: ¬n< -9223372036854775807:=by omega
  have e:IntKind.i64.wrap (-n)=((-n).toNat:Int):=lT a8 a8;have hc:=Eg 19 (-n).toNat a8 a8 a8;have c:=mn (a:=⟨#[45]⟩) (b:=str (kg 19 (-n).toNat)) (by rw[p8];have:=v8 19 (-n).toNat;show 1+_≤_;omega);rw[if_pos h];refine aI (F:=nu) E3 (by simp[nu]) ?_;simp only[nu]
  refine aw (ga @h (ga @d (ga @e @c))) @hc ?_;show Value.string (str [45]++_)=_;rw[Lr];rfl
 ·have hc:=Eg 19 n.toNat a8 a8 a8;rw[if_neg h];rw[Int.toNat_of_nonneg a8]at hc;exact hc
theorem UO(n:Int):aE Tryz.prog 232 [dI n] (.tup [.agg (ae (cd n)),dI (if n< -1099511627776∨1099511627776<n then 2 else 0)]):=by
 unfold cd;by_cases h:n< -1099511627776∨1099511627776<n
 ·rw[if_pos h,if_pos h];refine aI (F:=rL) J3 (by simp[rL]) ?_;simp only[rL]
  repeat' first|refine ak (fun _=> ?_) fun _=> ?_|refine bb @dE trivial ?_|exact ba @dE trivial|fail
  ·rfl
  ·rfl
  ·omega
 ·have hc:=JU n a8 a8;rw[if_neg h,if_neg h];refine aI (F:=rL) J3 (by simp[rL]) ?_;simp only[rL]
  repeat' first|refine ak (fun _=> ?_) fun _=> ?_|refine bb @dE @hc ?_|exact ba @dE @hc|fail
  ·omega
  ·omega
  ·rfl
theorem Dj(d:Nat): ∀(l:List Sx) (s:aZ),(l.foldl (fun s x=>s++fE d x) s).size=s.size+(l.map fun x=>(fE d x).size).sum
 |[],s=>by simp
 |x::l,s=>by rw[gz,Dj d l,jO];simp;omega
set_option maxHeartbeats 1000000 in
theorem JX: ∀(d:Nat) (x:Sx),eW d x→bG d x≤1000000000→(fE d x).size≤1000000000000→aE Tryz.prog 231 [.agg (ae x)] (dS (fE d x))
 |0,_,h,_,_=>h.elim
 |d+1,.mk b a l,hg0,hn,hz=>by
  have j:=JX d;rcases id hg0 with⟨rfl,rfl,ha⟩|⟨rfl,rfl,hl⟩
  ·have i:fE (d+1) (.mk false a [])=dec a.size++⟨#[58]⟩++a:=rfl;rw[i]at hz⊢;rw[jO,jO]at hz;have hc:=JU a.size a8 a8;have m:=mn (a:=dec a.size) (b:=⟨#[58]⟩) a8;have n:=mn (a:=dec a.size++⟨#[58]⟩) (b:=a) (by rw[jO];omega);clear j i hz
   refine aI (F:=rN) J5 (by simp[rN]) ?_;simp only[rN];rw[jj];exact bx (ga @m @n) @hc
  ·have p:bG (d+1) (.mk true ⟨#[]⟩ l)=1+(l.map (bG d)).sum:=rfl;have q:l.length≤(l.map (bG d)).sum:=sG _ fun x o=>qh (hl x o);rw[p]at hn;have i:fE (d+1) (.mk true ⟨#[]⟩ l)=l.foldl (fun s x=>s++fE d x) ⟨#[40]⟩++⟨#[41]⟩:=rfl;rw[i]at hz⊢;rw[jO]at hz;obtain⟨R,c⟩: ∃R,R=l.foldl (fun s x=>s++fE d x) ⟨#[40]⟩:=⟨_,rfl⟩
   rw[←c]at hz⊢;have n:=mn (a:=R) (b:=⟨#[41]⟩) a8;clear i p;refine aI (F:=rN) J5 (by simp[rN]) ?_;simp only[rN];rw[jj];refine aw trivial trivial ?_
   refine aX.over l (fun k (s:aZ)=>[(4,iN k),(3,.d (.sc (.string s)))]) (fun _ _=>[]) (fun r s=>r.foldl (fun s x=>s++fE d x) s) R ⟨#[40]⟩ a8 aA aA rfl c (fun k s x hg u e t g=> ?_) (fun s e g=> ?_)
   ·have o:=hl x (bT hg);have f:=congrArg ByteArray.size g;rw[Dj]at f;simp only[bO,qR]at f;have hc:=j x o (by have:=wB (bG d) hg;omega) a8;have m:=mn (a:=s) (b:=fE d x) a8;rw[gz]at g;clear j f c;refine aw (ga @e (ga @t (ga @hg @m))) @hc ?_;exact⟨_,rfl,g⟩
   ·rw[List.foldl_nil]at g;subst g;exact bx (ga @e @n) trivial
theorem UM{d:Nat}{x:Sx}(hg:eW d x)(e:d≤12)(f:bG d x≤20000):aE Tryz.prog 230 [.agg (ae x)] (dI 0):=by
 have a:=JW d x 20000 12 hg f a8 e a8;have b:=JV d x hg (fun _=> .inr trivial) a8;have c: ¬(((bG d x:Nat):Int)>20000):=by omega
 refine aI (F:=zN) SB (by simp[zN]) ?_;simp only[zN];exact bx @c (ga @a @b)
theorem UN{d:Nat}{x:Sx}(hg:eW d x)(c:d≤12)(e:bG d x≤20000)(f:(fE d x).size≤1000000000000):aE Tryz.prog 168 [.agg (ae x)] (.tup [dS (fE d x),dI 0]):=by
 have a:=UM hg c e;have b:=JX d x hg a8 f;refine aI (F:=zO) SC (by simp[zO]) ?_;simp only[zO];exact bx trivial (ga @a @b)
end Go.Proofs.Q
namespace Go.Proofs.Q
open Go Go.Bb Go.Proofs.Lg
open Go.Ab (D)
def l9:List AV:=(bk .zero).map .d
def iY:List AV:=[.d (.sc (.string ⟨#[]⟩)),.d (.sc (.string ⟨#[]⟩)),.d (.sc (.int .i64 0)),.nil 32,.nil 139]
theorem ew{vs:List AV}(h:vs.length=5):aV iY 0 5 vs=some vs:=gp rfl h
theorem eV(x:Dg)(l:List AV)(h:l.length=32):aV l 0 32 ((aq x).map .d)=some ((aq x).map .d):=gp h (by rw[aL,bc])
def pg:List AV:=(ab .zero).map .d++[.d (.sc .nilFunc)]
def dZ(x:ar)(a:AV):List AV:=(ab x).map .d++[a]
theorem ix(x:ar)(a:AV):(dZ x a).length=34:=by simp[dZ,aM]
theorem FE:pg.length=34:=by simp[pg,aM]
theorem M7(x:ar):aV pg 0 33 ((ab x).map .d)=some (dZ x (.d (.sc .nilFunc))):=by
 unfold aV pg dZ;rw[if_pos ⟨by simp[aM],by simp[aM]⟩];simp[aM,gx,gy]
theorem KE(x:ar)(a b:AV):aV (dZ x a) 33 1 [b]=some (dZ x b):=by
 unfold aV dZ;rw[if_pos ⟨rfl,by simp[aM]⟩];simp[aM,List.take_append,dm,gx,gy]
end Go.Proofs.Q
namespace Go.Proofs.Q
open Go Go.Ab Go.Bb
def yJ:CF:=⟨15, (.seq (fo [ox 1 0,o7 2 0]) (.seq (fo [o0 4 (.bld [(.d (.sc (.int .i64 0))),(.d (.sc (.bool false)))] []),o0 5 (.box (.t 4)),om 3 5]) (.seq (.seq (fo [om 6 3,o2 7 3 1,o6 8 271 [.t 6,.t 7,(xi 1)]]) (.seq (fo [om 9 3,o0 10 (.nck (.t 9)),o1 11 1 10,o3 12 11]) (.cond (.t 12) (.seq (fo [o7 2 4]) .ret) .skip))) (.seq (fo [o2 13 3 1,o6 14 272 [.t 13],om 2 14]) .ret)))),[.tmp 2]⟩
theorem RB:aG Tryz.prog [100001] 247=some yJ.erase:=by kernel_rfl
def yK:CF:=⟨14, (.seq (fo [ox 1 0,o0 2 (.mov (.c (.d (.sc (.string ⟨#[]⟩))))),o7 3 0]) (.seq (.seq (fo [o2 6 3 1,o6 7 247 [.t 6],om 4 7]) (.seq (fo [om 8 4,o5 9 .neq 8 0]) (.cond (.t 9) (.seq (fo [om 10 4,o0 2 (.mov (.c (.d (.sc (.string ⟨#[]⟩))))),om 3 10]) .ret) .skip))) (.seq (fo [o0 5 (.bxt 260 (.c (.agg [(.d (.sc (.pointer none))),(.nil 1)])))]) (.seq (fo [o2 11 3 1,o6 12 248 [.t 5,.t 11]]) (.seq (fo [o6 13 249 [.t 5],om 2 13,o7 3 0]) .ret))))),[.tmp 2,.tmp 3]⟩
theorem RC:aG Tryz.prog [100001,100005] 188=some yK.erase:=by kernel_rfl
def rz:CF:=⟨36, (.seq (fo [ox 3 1]) (.seq (.seq (fo [o1 6 0 3,o3 7 6,o0 8 (.not (.t 7))]) (.cond (.t 8) (.seq (fo [om 9 0,o1 10 1 3,o3 11 10,o9 12 1 11,o6 13 270 [.t 12],o6 14 273 [.t 9,.t 13]]) (.seq (fo [om 15 0,o6 16 274 [.t 15,(.c (.d (.sc (.int .u8 58))))]]) (.seq (fo [om 17 0,o1 18 1 3,o3 19 18,o6 20 273 [.t 17,.t 19]]) .ret))) .skip)) (.seq (fo [om 21 0,o6 22 274 [.t 21,(.c (.d (.sc (.int .u8 40))))]]) (.seq (.seq (fo [o1 23 2 3,o3 24 23,o9 25 0 24,o7 26 0]) (.block 0 (.loop (.trim [26,0,24,25] (.seq (fo [o4 27 .lss 26 25]) (.seq (.cond (.t 27) .skip (.exit 0)) (.seq (.block 1 (.seq (fo [oi 28 3 24 26,o2 29 3 28,o0 5 (.box (.c (.agg ek))),o8 3 5 29]) (fo [om 30 0,o2 31 3 5,o6 32 248 [.t 30,.t 31]]))) (fo [o5 33 .add 26 1,om 26 33])))))))) (fo [om 34 0,o6 35 274 [.t 34,(.c (.d (.sc (.int .u8 41))))]]))))),[]⟩
theorem IQ:aG Tryz.prog [100003] 248=some rz.erase:=by kernel_rfl
def rA:CF:=⟨43, (.seq (fo [ox 1 0,o7 2 0]) (.seq (.block 0 (.seq (fo [o1 7 0 1,o3 8 7,om 9 8,og 10 9 true (.fad 1 (.t 1)),og 11 9 true (.ld none (.t 10)),og 12 9 true (.bin .neq (.t 11) (.c (.d (.sc (.string ⟨#[]⟩))))),o0 13 (.pick (.t 9) (.t 12) xF),om 14 13,og 15 14 false (.fad 0 (.t 1)),og 16 14 false (.ld none (.t 15)),og 17 14 false (.not (.t 16)),oh 18 14 false 17,og 19 18 true (.fad 2 (.t 1)),og 20 18 true (.ld none (.t 19)),og 21 18 true (.len 0 (.t 20)),og 22 18 true (.bin .gtr (.t 21) (xi 0)),og 23 14 false (.pick (.t 18) (.t 22) xF),o0 24 (.pick (.t 14) xT (.t 23)),om 6 24]) (.cond (.t 6) (.seq (fo [o7 2 1]) .ret) (.seq (fo [o1 26 1 1,o3 27 26,o9 28 1 27,o5 29 .gtr 28 65536,om 25 29]) (.cond (.t 25) (.seq (fo [o7 2 4]) .ret) .skip))))) (.seq (.seq (fo [o1 30 2 1,o3 31 30,o9 32 0 31,o7 33 0]) (.block 1 (.loop (.trim [33,31,32] (.seq (fo [o4 34 .lss 33 32]) (.seq (.cond (.t 34) .skip (.exit 1)) (.seq (.block 2 (.seq (fo [oi 35 3 31 33,o2 36 3 35,o0 4 (.box (.c (.agg ek))),o8 3 4 36]) (.seq (fo [o2 37 3 4,o6 38 272 [.t 37],om 5 38]) (.seq (fo [om 39 5,o5 40 .neq 39 0]) (.cond (.t 40) (.seq (fo [om 41 5,om 2 41]) .ret) .skip))))) (fo [o5 42 .add 33 1,om 33 42])))))))) (.seq (fo [o7 2 0]) .ret)))),[.tmp 2]⟩
theorem IS:aG Tryz.prog [100001] 272=some rA.erase:=by kernel_rfl
def ry:CF:=⟨14, (.seq (fo [o0 2 (.box (.c (.agg ek))),o7 3 0]) (.seq (.seq (fo [om 4 0,o0 5 (.bin .lss (.t 4) (xi (-1099511627776))),om 6 5,oh 7 6 false 0,og 8 6 false (.bin .gtr (.t 7) (xi 1099511627776)),o0 9 (.pick (.t 6) xT (.t 8))]) (.cond (.t 9) (.seq (fo [o0 10 (.bld fv []),o8 3 2 10,o7 3 2]) .ret) .skip)) (.seq (fo [om 11 0,o6 12 270 [.t 11],o0 13 (.bld fv [(1,1,(.t 12))]),o8 3 2 13,o7 3 0]) .ret))),[.cell 2 (some 3),.tmp 3]⟩
theorem IP:aG Tryz.prog [300010,300013] 246=some ry.erase:=by kernel_rfl
def yL:CF:=⟨47, (.seq (fo [ox 4 1]) (.seq (fo [om 8 0,o0 9 (.nck (.t 8)),o1 10 0 9,o3 11 10,o5 12 .add 11 1,o0 13 (.nck (.t 8)),o1 14 0 13,o8 1 14 12]) (.seq (.seq (fo [om 15 0,o0 16 (.nck (.t 15)),o1 17 0 16,o3 18 17,o5 19 .gtr 18 20000,om 20 19,oh 21 20 false 2,og 22 20 false (.bin .gtr (.t 21) (xi 12)),o0 23 (.pick (.t 20) xT (.t 22))]) (.cond (.t 23) (fo [om 24 0,o0 25 (.nck (.t 24)),o1 26 1 25,oN (.st 1 (.t 26) xT)]) .skip)) (.seq (.seq (fo [o1 27 0 4,o3 28 27,o0 29 (.not (.t 28))]) (.cond (.t 29) .ret .skip)) (.seq (fo [o1 30 2 4,o3 31 30,o9 32 0 31,o7 33 0]) (.block 0 (.loop (.trim [0,2,33,31,32] (.seq (fo [o4 34 .lss 33 32]) (.seq (.cond (.t 34) .skip (.exit 0)) (.seq (.block 1 (.seq (fo [oi 35 3 31 33,o2 36 3 35,o0 7 (.box (.c (.agg ek))),o8 3 7 36]) (.seq (.seq (fo [om 37 0,o0 38 (.nck (.t 37)),o1 39 1 38,o3 40 39]) (.cond (.t 40) .ret .skip)) (fo [om 41 0,o2 42 3 7,om 43 2,o5 44 .add 43 1,o6 45 271 [.t 41,.t 42,.t 44]])))) (fo [o5 46 .add 33 1,om 33 46])))))))))))),[]⟩
theorem RE:aG Tryz.prog [100004] 271=some yL.erase:=by kernel_rfl
def yI:CF:=⟨20, (.seq (fo [o7 4 0]) (.seq (fo [om 7 0,o6 8 198 [.t 7],om 5 8]) (.seq (fo [om 9 1,o6 10 198 [.t 9],om 6 10]) (.seq (.seq (fo [om 11 5]) (.cond (.t 11) (.seq (.seq (fo [om 12 6]) (.cond (.t 12) (.seq (fo [o7 4 0]) .ret) .skip)) (.seq (fo [o0 4 (.mov (xi (-1)))]) .ret)) .skip)) (.seq (.seq (fo [om 13 6]) (.cond (.t 13) (.seq (fo [o7 4 1]) .ret) .skip)) (.seq (.seq (fo [om 14 0,om 15 1,o4 16 .lss 14 15]) (.cond (.t 16) (.seq (fo [o0 4 (.mov (xi (-1)))]) .ret) .skip)) (.seq (.seq (fo [om 17 0,om 18 1,o4 19 .gtr 17 18]) (.cond (.t 19) (.seq (fo [o7 4 1]) .ret) .skip)) (.seq (fo [o7 4 0]) .ret)))))))),[.tmp 4]⟩
theorem Rz:aG Tryz.prog [] 142=some yI.erase:=by kernel_rfl
def yN:CF:=⟨6, (.seq (fo [o0 2 (.mov xF)]) (.seq (fo [om 3 0,om 4 0,o4 5 .neq 3 4,om 2 5]) .ret)),[.tmp 2]⟩
theorem RG:aG Tryz.prog [] 198=some yN.erase:=by kernel_rfl
def zH:CF:=⟨35, (.seq (fo [o0 2 (.mov (.c (.nil 32)))]) (.seq (fo [om 7 0,o6 8 82 [.t 7],o0 3 (.box (.c (.d (.sc (.map none))))),o8 1 3 8]) (.seq (fo [o0 9 (.mkm true),o0 4 (.box (.c (.d (.sc (.map none))))),o8 1 4 9]) (.seq (fo [o0 5 (.nlr 25 32)]) (.seq (.seq (fo [om 10 0,o9 11 0 10,o7 12 0]) (.block 0 (.loop (.trim [5,4,0,12,3,11] (.seq (fo [o4 13 .lss 12 11]) (.seq (.cond (.t 13) .skip (.exit 0)) (.seq (.block 1 (.seq (fo [om 14 0,o0 15 (.mkf 190 [] [.t 4,.t 3]),o6 16 72 [.t 14,.t 15],om 6 16]) (.seq (.seq (fo [om 17 6,o5 18 .lss 17 0]) (.cond (.t 18) (.exit 0) .skip)) (.seq (.ops true [0,0,0,6,14,30,63] [o3 19 4,om 20 0,om 21 6,oi 22 37 20 21,o1 23 0 22,o2 24 32 23,oN (.mup true dD (.t 19) (.t 24) xT)]) (fo [om 25 5,om 26 0,om 27 6,oi 28 37 26 27,o1 29 0 28,o2 30 32 29,o0 31 (.bsf 32 1 cN [(0,32,(.t 30))]),o0 32 (.app false 25 32 32 (.t 25) (.t 31)),om 5 32]))))) (fo [o5 33 .add 12 1,om 12 33])))))))) (.seq (fo [om 34 5,om 2 34]) .ret)))))),[.tmp 2]⟩
theorem Su:aG Tryz.prog [200005,100031] 137=some zH.erase:=by kernel_rfl
def zI:CF:=⟨19, (.seq (fo [ox 3 0,o0 4 (.mov xF)]) (.seq (fo [o3 5 1,o1 6 0 3,o2 7 32 6,o0 8 (.lkp true dD (.d (.sc (.bool false))) false (.t 5) (.t 7)),o0 9 (.not (.t 8)),om 10 9,og 11 10 true (.ld none (.t 2)),og 12 10 true (.fad 0 (.t 3)),og 13 10 true (.ld (some 32) (.t 12)),og 14 10 true (.lkp true dD (.nil 32) false (.t 11) (.t 13)),og 15 10 true (.mkf 191 [] [.t 1]),og 16 10 true (.call (.fn 147) [.t 14,.t 15]),og 17 10 true (.not (.t 16)),o0 18 (.pick (.t 10) (.t 17) xF),om 4 18]) .ret)),[.tmp 4]⟩
theorem Sv:aG Tryz.prog [100003] 190=some zI.erase:=by kernel_rfl
def zJ:CF:=⟨8, (.seq (fo [ox 2 0,o0 3 (.mov xF)]) (.seq (fo [o3 4 1,o2 5 32 2,o0 6 (.lkp true dD (.d (.sc (.bool false))) false (.t 4) (.t 5)),o0 7 (.not (.t 6)),om 3 7]) .ret)),[.tmp 3]⟩
theorem Sw:aG Tryz.prog [100002] 191=some zJ.erase:=by kernel_rfl
def yy:CF:=⟨9, (.seq (fo [o0 4 (.mov xF)]) (.seq (fo [om 5 0,om 6 1,o6 7 202 [.t 5,.t 6],o5 8 .geq 7 0,om 4 8]) .ret)),[.tmp 4]⟩
theorem Rr:aG Tryz.prog [] 147=some yy.erase:=by kernel_rfl
def yD:CF:=⟨19, (.seq (fo [o7 4 0]) (.seq (.seq (fo [om 6 0,o9 7 0 6,o7 8 0]) (.block 0 (.loop (.trim [8,0,1,7] (.seq (fo [o4 9 .lss 8 7]) (.seq (.cond (.t 9) .skip (.exit 0)) (.seq (.block 1 (.seq (fo [om 10 8,om 5 10]) (.seq (fo [om 11 1,om 12 0,om 13 5,oi 14 32 12 13,o2 15 32 14,o0 16 (.call (.val (.t 11)) [.t 15])]) (.cond (.t 16) (.seq (fo [om 17 5,om 4 17]) .ret) .skip)))) (fo [o5 18 .add 8 1,om 8 18])))))))) (.seq (fo [o0 4 (.mov (xi (-1)))]) .ret))),[.tmp 4]⟩
theorem Rv:aG Tryz.prog [] 202=some yD.erase:=by kernel_rfl
end Go.Proofs.Q
namespace Go.Proofs.Q
open Go Go.Bb Go.Proofs.Lg
open Go.Ab (D)
def jZ(l:List af):List AV:=((l.map aQ).flatten).map .d
def M4:List AV:=jZ [.zero,.zero,.zero]
theorem NG(l:List af):(jZ l).length=l.length*139:=by
 unfold jZ;rw[aL,Go.Ab.flatten_len (sz:=139) _ fun r a=>by obtain⟨x,_,rfl⟩:=cy.1 a;exact dN x,aL]
end Go.Proofs.Q
