/- Lemmas. -/
import Derived.Test.YtikhfhjohjfamaaGreatDoorPAW
set_option linter.unusedVariables false
set_option linter.unusedSimpArgs false
set_option maxRecDepth 100000
namespace Go.Proofs.Q
open Go Go.Bb Go.RowKit Go.Proofs.Lg
open Go.Ab (D RD)
theorem qi(s:bb):aI Tryz.prog 295 [dS s] (.agg (aj (dC s))):=by
 refine aL Tryz.f295 ?_ [300004];refine aC @ec trivial ?_
 all_goals rfl
theorem L4(l:List Sx):aI Tryz.prog 294 [.sl 3 (l.map aj)] (.agg (aj (de l))):=by
 refine aL Tryz.f294 ?_ [300004];refine aC @ec trivial ?_
 all_goals rfl
theorem UU(a b:Sx):aI Tryz.prog 294 [.sl 3 [aj a,aj b]] (.agg (aj (de [a,b]))):=L4 [a,b]
theorem UW(a b c d e f:Sx):aI Tryz.prog 294 [.sl 3 [aj a,aj b,aj c,aj d,aj e,aj f]] (.agg (aj (de [a,b,c,d,e,f]))):=L4 [a,b,c,d,e,f]
theorem Tu(x:Sx):ba ((aj x).map .d) 2 1 [.nil 3]=some [.d (dB x.isL),.d (dS x.atom),.nil 3]:=by rw[kp];rfl
theorem Ao(a b:D):aggA [.d a,.d b,.nil 3]= .agg [.d a,.d b,.nil 3]:=rfl
theorem ia(a b c:AV):ba rV 0 3 [a,b,c]=some [a,b,c]:=rfl
theorem ji(a b c v:AV):ba [a,b,c] 2 1 [v]=some [a,b,v]:=rfl
theorem Nb(b:Bool)(a:bb)(l:List Sx):(Sx.mk b a l).isL=b:=rfl
theorem Na(b:Bool)(a:bb)(l:List Sx):(Sx.mk b a l).atom=a:=rfl
theorem F4(s:List aa):bs Tryz.prog 294 [.nil 3] s λd a=>d= .agg [.d (dB true),.d (dS ⟨#[]⟩),.nil 3]/\a=s++[.cells [.d (dB true),.d (dS ⟨#[]⟩),.nil 3]]:=by
 refine cz Tryz.f294 ?_ [300004];refine aC (ga @Tu (ga @Ao (ga @ia (ga @Nb (ga @Na @wj))))) trivial ?_;exact⟨rfl,rfl⟩
theorem QM(b:lf)(n:Int):aI Tryz.prog 373 [dI n] (.tup [.agg (aj (cU n)),dI (if n< -1099511627776\/1099511627776<n then 2 else 0)]):=by
 unfold cU;by_cases h:n< -1099511627776\/1099511627776<n
 .rw[if_pos h,if_pos h];refine aL Tryz.f373 ?_ [300010,300013]
  repeat' first|refine ab (λ_=> ?_) λ_=> ?_|refine aH ?_|simp only[ec,gt_iff_lt,wy,qg,aE,reduceCtorEq,reduceIte,Nat.reduceAdd,Nat.reduceMul,Nat.reduceEqDiff,Nat.reduceLT,Nat.reduceLeDiff,Nat.reduceSub,ax,aD,aB,aw]
  all_goals first|rfl|omega
 .rw[if_neg h,if_neg h];have a:=b n a8 a8;refine aL Tryz.f373 ?_ [300010,300013]
  repeat' first|refine ab (λ_=> ?_) λ_=> ?_|refine aH ?_|refine af.data (a) rfl ?_|simp only[ec,gt_iff_lt,wy,qg,aE,reduceCtorEq,reduceIte,Nat.reduceAdd,Nat.reduceMul,Nat.reduceEqDiff,Nat.reduceLT,Nat.reduceLeDiff,Nat.reduceSub,ax,aD,aB,aw]
  all_goals first|rfl|omega
theorem jR(a:lf)(n:Int):aI Tryz.prog 297 [dI n] (.agg (aj (cU n))):=by
 refine aL Tryz.f297 ?_;exact bL (ga @ec (ga @dh @wj)) (QM a)
theorem wM(a:lf)(x:ak):aI Tryz.prog 365 [.agg (ae x)] (.agg (aj (bO x))):=by
 refine aL Tryz.f365 ?_ [100001,100009,100018]
 repeat' first|refine ab (λ_=> ?_) λ_=> ?_|refine aH ?_|refine af.data (BY _) rfl ?_|refine af.data (qi _) rfl ?_|refine af.data (jR a _) rfl ?_|refine af.data (UU _ _) rfl ?_|simp only[ec,Cz,MQ,Iu,aN,He,wy,qg,aE,reduceCtorEq,reduceIte,Nat.reduceAdd,Nat.reduceMul,Nat.reduceEqDiff,Nat.reduceLT,Nat.reduceLeDiff,Nat.reduceSub,ax,aD,aB,aw]
 .rename_i h;rw[bO,gK,if_pos h]
 .rename_i h;rw[bO,gK,if_neg (by simp[h])];rfl
def fx(o:Nat->Nat)(v:AV)(J:List aa)(b:List Sx):Prop:=(v= .nil 3/\b=[])\/ ∃r,v= .tsl (o r) 3 (b.map aj)/\J[r]?=some (.row 307 3 b.length)
theorem fx.deep{o:Nat->Nat}{v:AV}{J:List aa}{b:List Sx}(h:fx o v J b):v.toL=some (.sl 3 (b.map aj)):=by
 rcases h with⟨rfl,rfl⟩|⟨r,rfl,_⟩<;>rfl
theorem fx.new{o:Nat->Nat}(J:List aa)(x:Sx)(a:List aa):fx o (.tsl (o J.length) 3 [aj x]) (J++ .row 307 3 1::a) [x]:= .inr ⟨J.length,rfl,by simp⟩
theorem fx.new1{o:Nat->Nat}(J:List aa)(A:aa)(x:Sx)(a:List aa):fx o (.tsl (o (J.length+1)) 3 [aj x]) (J++A:: .row 307 3 1::a) [x]:= .inr ⟨J.length+1,rfl,by simp⟩
theorem fx.snoc{o:Nat->Nat}{J:List aa}{b:List Sx}{r:Nat}(h:J[r]?=some (.row 307 3 b.length))(x:Sx):fx o (.tsl (o r) 3 (b.map aj++[aj x])) (J.set r (.row 307 3 (b.length+1))) (b++[x]):=by
 have a:=(aV.1 h).1;exact .inr ⟨r,by simp,by rw[fB,if_pos rfl,if_pos a];simp⟩
theorem nB(l:List Sx):aj (de l)=[dB true,dS ⟨#[]⟩,.sl 3 (l.map aj)]:=lT _ _ _
abbrev KP(r:Nat):Nat:=r+1+1+1
abbrev KQ(r:Nat):Nat:=r+1+1+1+1
theorem qw{J:List aa}{r n:Nat}(h:J[r]?=some (.row 307 3 n)):gU 307 3 n J[r]?=true:=by rw[h];simp[gU]
theorem UD(l:List bb)(m:l.length<=1000000000):aI Tryz.prog 370 [.sl 1 (l.map fA)] (.agg (aj (de (l.map dC)))):=by
 have j:=F4 [.cells rV];refine aL Tryz.f370 ?_ [100017] [[9,3,7,2,8]];refine sH (ga @ia @wj) @j ?_;refine aC (ga @ia @wj) trivial ?_
 refine aZ.overI l (λk (b:AV×List aa×List Sx)=>[(9,iN k)]) (λ_ b=>[.cells rV,.cells [.d (dB true),.d (dS ⟨#[]⟩),.nil 3],.cells [.d (dB true),.d (dS ⟨#[]⟩),b.1]]++b.2.1) (λr b=>b.2.2++r.map dC) (l.map dC) (λk b=>fx KP b.1 b.2.1 b.2.2/\b.2.2.length=k) (.nil 3,[],[]) a8 aA aA rfl rfl ⟨.inl ⟨rfl,rfl⟩,rfl⟩ (λk b x hg hk g i e c=> ?_) (λb g e c=> ?_)
 .obtain⟨v,J,b⟩:=b;obtain⟨c,a⟩:=c;dsimp only at e c a;rcases c with⟨rfl,rfl⟩|⟨r,rfl,hr⟩
  .have f:bw 1 48=true:=by decide
   repeat' first|refine ab (λ_=> ?_) λ_=> ?_|refine aH ?_|refine af.data (qi _) rfl ?_|simp only[g,i,hg,f,fA,ji,wj,wy,qg,aE,reduceCtorEq,reduceIte,Nat.reduceAdd,Nat.reduceMul,Nat.reduceEqDiff,Nat.reduceLT,Nat.reduceLeDiff,Nat.reduceSub,ax,aD,aB,aw]
   exact⟨(_,_,[dC x]),rfl,by simpa using e,fx.new J _ [],by simp at a;simp[a]⟩
  .have f:bw (b.length+1) 48=true:=room_le a8 a8;have h:=qw hr
   repeat' first|refine ab (λ_=> ?_) λ_=> ?_|refine aH ?_|refine af.data (qi _) rfl ?_|simp only[g,i,hg,f,hr,h,fA,ji,wj,wy,qg,aE,reduceCtorEq,reduceIte,Nat.reduceAdd,Nat.reduceMul,Nat.reduceEqDiff,Nat.reduceLT,Nat.reduceLeDiff,Nat.reduceSub,ax,aD,aB,aw]
   exact⟨(_,_,b++[dC x]),rfl,by simpa using e,fx.snoc hr _,by simp[a]⟩
 .obtain⟨v,J,b⟩:=b;obtain⟨c,a⟩:=c;dsimp only at e c a;simp at e;rw[e];rcases c with⟨rfl,rfl⟩|⟨r,rfl,hr⟩
  .refine aC (ga @g (ga @ia (ga @Ao @wj))) trivial ?_;rw[nB];rfl
  .refine aC (ga @g (ga @ia @wj)) trivial ?_;rw[nB]
theorem yY(j:lf)(l:List ak)(o:l.length<=1000000000):aI Tryz.prog 366 [.sl 33 (l.map ae)] (.agg (aj (fu l))):=by
 have n:=F4 [.cells rV];have cI:=wM j;clear j;refine aL Tryz.f366 ?_ [100017] [[9,3,7,2,8]];refine sH (ga @ia @wj) @n ?_;refine aC (ga @ia @wj) trivial ?_
 refine aZ.overI l (λk (b:AV×List aa×List Sx)=>[(9,iN k)]) (λ_ b=>[.cells rV,.cells [.d (dB true),.d (dS ⟨#[]⟩),.nil 3],.cells [.d (dB true),.d (dS ⟨#[]⟩),b.1]]++b.2.1) (λr b=>b.2.2++r.map bO) (l.map bO) (λk b=>fx KP b.1 b.2.1 b.2.2/\b.2.2.length=k) (.nil 3,[],[]) a8 aA aA rfl rfl ⟨.inl ⟨rfl,rfl⟩,rfl⟩ (λk b x hg hk g m e c=> ?_) (λb g e c=> ?_)
 .obtain⟨v,J,b⟩:=b;obtain⟨c,a⟩:=c;dsimp only at e c a;rcases c with⟨rfl,rfl⟩|⟨r,rfl,hr⟩
  .have f:bw 1 48=true:=by decide
   refine aC (ga @g (ga @m (ga @hg (ga @f (ga @ji (ga @aN @wj)))))) @cI ?_;exact⟨(_,_,[bO x]),rfl,by simpa using e,fx.new1 J _ _ [],by simp at a;simp[a]⟩
  .have f:bw (b.length+1) 48=true:=room_le a8 a8;have i:=qw hr;have h:=cF hr;refine aC (ga @g (ga @m (ga @hg (ga @f (ga @hr (ga @h (ga @i (ga @ji (ga @aN @wj))))))))) @cI ?_;exact⟨(_,_,b++[bO x]),rfl,by simpa using e,fx.snoc (cF hr _) _,by simp[a]⟩
 .obtain⟨v,J,b⟩:=b;obtain⟨c,a⟩:=c;dsimp only at e c a;simp at e;unfold fu;rw[e];rcases c with⟨rfl,rfl⟩|⟨r,rfl,hr⟩
  .refine aC (ga @g (ga @ia (ga @Ao @wj))) trivial ?_;rw[nB];rfl
  .refine aC (ga @g (ga @ia @wj)) trivial ?_;rw[nB]
theorem Rj(a:lf)(c:az):aI Tryz.prog 363 [.agg (aR c)] (.sl 3 [aj (cU c.type)]):=by
 refine aL Tryz.f363 ?_ [100001,100006];exact bL trivial (jR a)
theorem Rk(a:lf)(c:az)(d:c.over.length<=1000000000):aI Tryz.prog 364 [.agg (aR c)] (.sl 3 [aj (bO c.file),aj (bO c.parent),aj (dC c.name),aj (fu c.over)]):=by
 have b:=yY a c.over d;refine aL Tryz.f364 ?_ [100001,100015];exact bL trivial (ga (wM a) (ga @qi @b))
theorem Rl(a:lf)(c:az)(d:c.over.length<=1000000000):aI Tryz.prog 367 [.agg (aR c)] (.sl 3 [aj (bO c.file),aj (cU c.mode),aj (fu c.over)]):=by
 have b:=yY a c.over d;refine aL Tryz.f367 ?_ [100001,100012];exact bL trivial (ga (wM a) (ga (jR a) @b))
theorem Rm(a:lf)(c:az)(d:c.over.length<=1000000000):aI Tryz.prog 368 [.agg (aR c)] (.sl 3 [aj (bO c.file),aj (dC c.data),aj (fu c.over)]):=by
 have b:=yY a c.over d;refine aL Tryz.f368 ?_ [100001,100012];exact bL trivial (ga (wM a) (ga @qi @b))
theorem Rn(b:lf)(c:az)(d:c.lines.length<=1000000000):aI Tryz.prog 369 [.agg (aR c)] (.sl 3 [aj (bO c.file),aj (bO c.after),aj (bO c.before),aj (de (c.lines.map dC))]):=by
 have a:=UD c.lines d;refine aL Tryz.f369 ?_ [100001,100015];exact bL trivial (ga (wM b) (ga @qi @a))
theorem Ro(a:lf)(c:az)(d:c.over.length<=1000000000):aI Tryz.prog 371 [.agg (aR c)] (.sl 3 [aj (bO c.file),aj (bO c.after),aj (bO c.before),aj (fu c.over)]):=by
 have b:=yY a c.over d;refine aL Tryz.f371 ?_ [100001,100015];exact bL trivial (ga (wM a) (ga @qi @b))
theorem Rp(b:lf)(c:az)(d:c.over.length<=1000000000):aI Tryz.prog 372 [.agg (aR c)] (.sl 3 [aj (fu c.over)]):=by
 have a:=yY b c.over d;refine aL Tryz.f372 ?_ [100001,100006];exact bL trivial @a
def kq:List (List Value×AV):=[([.int .i64 1],.clo 363 [] []),([.int .i64 2],.clo 364 [] []),([.int .i64 3],.clo 367 [] []),([.int .i64 4],.clo 368 [] []),([.int .i64 5],.clo 369 [] []),([.int .i64 6],.clo 371 [] []),([.int .i64 7],.clo 372 [] [])]
theorem UF(s:List aa):bs Tryz.prog 296 [] s λd a=>d= .mp s.length/\a=s++[.map false kq]:=by
 refine cz Tryz.f296 ?_
 repeat' first|simp only[AV.key,AV.keyK,ey,bJ,pw]|refine ab (λ_=> ?_) λ_=> ?_|refine aG @wj trivial ?_|exact aF @wj trivial|fail
 rfl
end Go.Proofs.Q
namespace Go.Bb
open Go Go.Ab
theorem AC.cutJ{P:Program}{N:Nat}{rd:Option Nat}{a b:CC}{Q:Exit->Fr->List aa->Prop}{fr:Fr}{s:List aa}(keep:List Nat)(fr0:Fr)(p:List aa->Prop)
  (ha:cy P rd a (gg (λfr' c=>jJ keep fr0 fr'/\p c) Q) fr s) (hb: ∀c,p c->AC P N rd b Q (eQ keep fr0) c):AC P N rd (.seq a b) Q fr s:=by
 refine AC.seq ((bG ha).mono λe fr' c h=> ?_);cases e with
 |normal=>
  obtain⟨d,f⟩:=h;exact(hb _ f).frame d.sub
 |_=>exact h
end Go.Bb
namespace Go.Proofs.Q
open Go Go.Bb Go.RowKit Go.Proofs.Lg
open Go.Ab (D RD)
def fT(t:Nat):FuncId:=if t=2 then 329 else if t=3 then 330 else if t=4 then 331 else if t=5 then 332 else if t=6 then 333 else 334
def pV(c:az)(t:Nat):List AV:=if t=6\/t=7 then[.d (.ref (aR c))]else[]
def Cj(c:az)(p:ak×Nat):ak×FuncId×List AV:=(p.1,fT p.2,pV c p.2)
def nU(c:az)(l:List (ak×Nat))(s:List aa):Prop:= ∃v J,s= .cells [v]::J/\qU v J (l.map (Cj c))
theorem nU.add{c:az}{l:List (ak×Nat)}{s:List aa}(h:nU c l s)(x:ak)(t:Nat)(g:l.length<=1000000):bs Tryz.prog 328 [.d (.agg (ae x)),.clo (fT t) [] (pV c t),.ptr 0 0] s λd a=>d=vT/\nU c (l++[(x,t)]) a:=by
 obtain⟨v,J,rfl,e⟩:=h;refine(Yf e x (fT t) (pV c t) (by simpa using g)).mono ?_;rintro d a ⟨rfl,i,b,rfl,f⟩;exact⟨rfl,i,b,rfl,by simpa[Cj]using f⟩
theorem nU.more{c:az}{l:List (ak×Nat)}{s:List aa}(h:nU c l s)(o:aa):nU c l (s++[o]):=by
 obtain⟨v,J,rfl,a⟩:=h;exact⟨v,J++[o],rfl,a.more o⟩
def rJ(c:az):List (ak×Nat):=if c.kind=2\/c.kind=3 then[(c.file,2)]else if c.kind=4 then[(c.file,3)]else if c.kind=5\/c.kind=6 then[(c.file,4)]else[]
def tB(c:az):List (ak×Nat):=if c.kind=2/\c.parent≠⟨.zero,-1⟩then[(c.parent,5)]else[]
def uN(c:az):List (ak×Nat):=if c.kind=5\/c.kind=6 then[(c.after,6),(c.before,6)]else[]
set_option maxHeartbeats 4000000 in
theorem L6(c:az)(G:c.over.length<=100000):bs Tryz.prog 263 [.d (.agg (aR c))] [] λd f=> ∃J,f= .cells [d]::J/\qU d J ((fR c).map (Cj c)):=by
 refine xz Tryz.f263 ?_ [100001] [[66,1,4,64,3,65]];refine AC.cutJ [1] [(1,.d (.ref (aR c)))] (λs=>s=[]) ?_ λs g=> ?_
 .exact bL trivial trivial
 subst g;refine AC.cutJ [1,3] [(1,.d (.ref (aR c))),(3,.ptr 0 0)] (λs=>s=[.cells [.nil 34]]) ?_ λs g=> ?_
 .exact bL trivial trivial
 subst g;refine AC.cutJ [1,3,4] [(1,.d (.ref (aR c))),(3,.ptr 0 0),(4,.clo 328 [] [.ptr 0 0])] (λs=>s=[.cells [.nil 34]]) ?_ λs g=> ?_
 .exact bL trivial trivial
 subst g;have h0:nU c [] [.cells [.nil 34]]:=⟨_,_,rfl,.inl ⟨rfl,rfl⟩⟩
 generalize[aa.cells [.nil 34]]=s0 at h0⊢;refine AC.cutJ [1,3,4] [(1,.d (.ref (aR c))),(3,.ptr 0 0),(4,.clo 328 [] [.ptr 0 0])] (nU c (rJ c)) ?_ λs g=> ?_
 .have a2:bs Tryz.prog 328 [.d (.agg (ae c.file)),.clo 329 [] [],.ptr 0 0] s0 _:=h0.add c.file 2 (by simp);have a3:bs Tryz.prog 328 [.d (.agg (ae c.file)),.clo 330 [] [],.ptr 0 0] s0 _:=h0.add c.file 3 (by simp);have a4:bs Tryz.prog 328 [.d (.agg (ae c.file)),.clo 331 [] [],.ptr 0 0] s0 _:=h0.add c.file 4 (by simp)
  repeat' first|refine ab (λ_=> ?_) λ_=> ?_|(refine af.fn (a2.mono ?_);rintro _ f ⟨rfl,h⟩)|(refine af.fn (a3.mono ?_);rintro _ f ⟨rfl,h⟩)|(refine af.fn (a4.mono ?_);rintro _ f ⟨rfl,h⟩)|refine aG trivial trivial ?_|exact aF trivial trivial|fail
  all_goals(unfold rJ;clear a2 a3 a4;simp_all)
 have w:(rJ c).length<=10:=by unfold rJ;(repeat' split)<;>simp
 clear h0;refine AC.cutJ [1,3,4] [(1,.d (.ref (aR c))),(3,.ptr 0 0),(4,.clo 328 [] [.ptr 0 0])] (nU c (rJ c++tB c)) ?_ λF m=> ?_
 .have a5:bs Tryz.prog 328 [.d (.agg (ae c.parent)),.clo 332 [] [],.ptr 0 0] s _:=g.add c.parent 5 a8
  repeat' first|refine ab (λ_=> ?_) λ_=> ?_|(refine af.fn (a5.mono ?_);rintro _ f ⟨rfl,h⟩)|refine aG trivial @xU ?_|exact aF trivial @xU|fail
  all_goals(unfold tB;simp_all)
 have y:(rJ c++tB c).length<=20:=by
  have:(tB c).length<=1:=by unfold tB;split<;>simp
  simp only[aQ];omega
 clear g;refine AC.cutJ [1,3,4] [(1,.d (.ref (aR c))),(3,.ptr 0 0),(4,.clo 328 [] [.ptr 0 0])] (nU c (rJ c++tB c++uN c)) ?_ λs2 n=> ?_
 .have C:bs Tryz.prog 328 [.d (.agg (ae c.after)),.clo 333 [] [.d (.ref (aR c))],.ptr 0 0] F _:=m.add c.after 6 a8
  repeat' first|refine ab (λ_=> ?_) λ_=> ?_|(refine af.fn (C.mono ?_);rintro _ f ⟨rfl,h⟩)|refine aG trivial trivial ?_|exact aF trivial trivial|fail
  iterate 2
   .have q:bs Tryz.prog 328 [.d (.agg (ae c.before)),.clo 333 [] [.d (.ref (aR c))],.ptr 0 0] f _:=h.add c.before 6 (by simp only[aQ,aY,bc]at*;omega)
    repeat' first|refine ab (λ_=> ?_) λ_=> ?_|(refine af.fn (q.mono ?_);rintro _ E ⟨rfl,D⟩)|refine aG trivial trivial ?_|exact aF trivial trivial|fail
    all_goals(unfold uN;simp_all)
  all_goals(unfold uN;simp_all)
 have j:(rJ c++tB c++uN c).length<=30:=by
  have:(uN c).length<=2:=by unfold uN;split<;>simp
  rw[aQ];omega
 clear m w y;obtain⟨L,t⟩: ∃L,L=rJ c++tB c++uN c:=⟨_,rfl⟩
 have e:fR c=L++c.over.map λx=>(x,7):=by rw[t];rfl
 rw[<-t]at n j;rw[e];clear e t;refine AC.cutJ [3] [(3,.ptr 0 0)] (nU c (L++c.over.map λx=>(x,7))) ?_ λH z=> ?_
 .refine aC trivial trivial ?_;refine aZ.overI c.over (λk (b:List (ak×Nat)×List aa)=>[(66,iN k)]) (λ_ b=>b.2) (λr b=>b.1++r.map λx=>(x,7)) (L++c.over.map λx=>(x,7)) (λk b=>nU c b.1 b.2/\b.1.length<=30+k) (L,s2) a8 aA aA rfl rfl ⟨n,by simpa using j⟩ (λk b x hg hk p B e a=> ?_) (λb p e a=> ?_)
  .obtain⟨l,s⟩:=b;obtain⟨a,u⟩:=a;dsimp only at e a u;have q: ∀o,bs Tryz.prog 328 [.d (.agg (ae x)),.clo 334 [] [.d (.ref (aR c))],.ptr 0 0] (s++[o]) _:=λo=>(a.more o).add x 7 a8;obtain⟨v,J,rfl,A⟩:=id a
   repeat' first|refine ab (λ_=> ?_) λ_=> ?_|(refine af.fn ((q _).mono ?_);rintro _ f ⟨rfl,h⟩)|refine aG (ga @p (ga @B (ga @hg (ga @aN (ga @fe @wj))))) trivial ?_|exact aF (ga @p (ga @B (ga @hg (ga @aN (ga @fe @wj))))) trivial|fail
   exact⟨(l++[(x,7)],f),rfl,by simpa using e,h,by simp;omega⟩
  .obtain⟨l,s⟩:=b;obtain⟨a,u⟩:=a;dsimp only at e a u;rw[fi,bq]at e;rw[e];refine aC @p trivial ?_
   all_goals exact a
 .obtain⟨v,J,rfl,A⟩:=z;refine bG ?_;refine aC @wj trivial ?_;rcases A with⟨rfl,i⟩|⟨r,rfl,i⟩
  .refine aC @wj trivial ?_;exact⟨_,rfl,.inl ⟨rfl,i⟩⟩
  .refine aC @wj trivial ?_;exact⟨_,rfl,.inr ⟨r,by simp,i⟩⟩
end Go.Proofs.Q
namespace Go.Proofs.Q
open Go Go.Bb Go.Proofs.Lg
open Go.Ab (D)
def A8(s:ar):Prop:= ∃r:Dg->Nat,∀x∈s,∀e∈bu x.pat,r e<r x.id
theorem lu.inj{s:ar}{o:List Dg}(h:lu s o){i j:Nat}{d:Dg}(hi:o[i]?=some d)(a:o[j]?=some d):i=j:=by
 have key: ∀i j:Nat,o[i]?=some d->o[j]?=some d-> ¬j<i:=λi j hi a b=>by
  obtain⟨_,_,_,k,_⟩:=h i d hi;exact k (bR (i:=j) (by rw[fL,if_pos b,a]))
 have:=key i j hi a;have:=key j i a hi;omega
theorem DZ{H:bb->Dg}{s:ar}(h:dm H s):A8 s:=by
 obtain⟨c,m⟩:=qh h;refine⟨λd=>Classical.epsilon λi=>(dD s)[i]?=some d,λx g e o=> ?_⟩;have hi:(dD s)[Classical.epsilon λi=>(dD s)[i]?=some x.id]?=some x.id:=Classical.epsilon_spec (p:=λi=>(dD s)[i]?=some x.id) (fE ((m x.id).2 (eR (f:=bD.id) g)));obtain⟨y,q,k,r,n⟩:=c _ _ hi
 have l:=yC h.sorted.nodup x g y q k.symm;subst l;obtain⟨j,a⟩:=fE (n e o);rw[fL]at a;split at a
 .rename_i b;have hk:=Classical.epsilon_spec (p:=λi=>(dD s)[i]?=some e) ⟨j,a⟩;dsimp only;rw[c.inj hk a];exact b
 .cases a
theorem Kz{out:List Dg}: ∀{s:ar} {i:Nat} {k:Option (Nat×Dg)},km out s i k=none->k=none/\ ∀x∈s,x.id∉out-> ∃e∈bu x.pat,e∉out
 |[],i,k,h=>⟨by cases k<;>exact h,by simp⟩
 |x::s,i,k,h=>by
  rw[BP]at h;obtain⟨a,j⟩:=Kz h;split at a
  .cases a
  .rename_i m;refine⟨a,λy b c=> ?_⟩;rcases bF.1 b with rfl|b
   .apply fX;intro hc;apply m;subst a;have f:bI out y.id=false:=by
     cases hb:bI out y.id
     .rfl
     .exact absurd ((jA _ _).1 hb) c
    have g:gz out (bu y.pat)=true:=(oS _ _).2 λd l=>fX λhm=>hc ⟨d,l,hm⟩;rw[f,g];rfl
   .exact j y b c
theorem JV{s:ar}(r:Dg->Nat)(out:List Dg): ∀n:Nat,(∃x∈s,x.id∉out/\r x.id<=n)-> ∃x∈s,x.id∉out/\ ∀y∈s,y.id∉out->r x.id<=r y.id
 |0,⟨x,hx,hn,hr⟩=>⟨x,hx,hn,λy _ _=>by omega⟩
 |n+1,⟨x,hx,hn,hr⟩=>by
  by_cases h: ∃y∈s,y.id∉out/\r y.id<=n
  .exact JV r out n h
  .refine⟨x,hx,hn,λy c a=> ?_⟩;apply fX;intro b;exact h ⟨y,c,a,by omega⟩
theorem EX{s:ar}(o:A8 s)(t: ∀x∈s,∀e∈bu x.pat,e∈b8 s)(c:(b8 s).Nodup): ∀(f:Nat) (out:List Dg),lu s out->s.length<=out.length+f->s.length<=(lP s f out).length
 |0,out,h,hf=>hf
 |f+1,out,h,hf=>by
  cases i:km out s 0 none with
  |none=>
   rw[lP,i];dsimp only;have a: ∀d∈b8 s,d∈out:=by
    intro d j;obtain⟨x,A,rfl⟩:=bM.1 j;apply fX;intro l;obtain⟨r,w⟩:=o;obtain⟨y,m,n,b⟩:=JV r out (r x.id) ⟨x,A,l,bg _⟩;obtain⟨e,p,k⟩:=(Kz i).2 y m n;obtain⟨z,B,rfl⟩:=bM.1 (t y m e p);have g:=w y m _ p;have v:=b z B k;omega
   have g:=sW c a;have v:(b8 s).length=s.length:=aM _;omega
  |some q=>
   have g:=(yT (s:=s) 1 out h).1;have u:lP s 1 out=out++[q.2]:=by rw[lP,i];rfl
   rw[u]at g;rw[lP,i];exact EX o t c f (out++[q.2]) g (by rw[aQ,oJ];omega)
section
variable (H:bb->Dg)
theorem HN: ∀(s:ar) (q:Option Dg),(∀x∈s,(bj H x.pat).2=0/\(bj H x.pat).1=x.id)->bT (q.toList++b8 s)->pT H q s=0
 |[],q,_,_=>by cases q<;>rfl
 |x::s,q,h1,h2=>by
  obtain⟨c,d⟩:=h1 x (by simp);rw[pT,if_neg (by rw[c];simp),if_neg (by rw[d];simp)];have a:bT (b8 (x::s)):=by
   cases q with
   |none=>exact h2
   |some q=>exact(gX.1 (show bT (q::b8 (x::s))from h2)).2
  rw[if_neg]
  .exact HN s (some x.id) (λy b=>h1 y (er _ b)) a
  .cases q with
   |none=>simp
   |some q=>
    have:=(gX.1 (show bT (q::b8 (x::s))from h2)).1 x.id (by simp[b8]);simp;omega
theorem Ih{ids:List Dg}: ∀{s:ar},(∀x∈s,∀d∈bu x.pat,d∈ids)->pW ids s=0
 |[],_=>rfl
 |y::s,h=>by
  rw[pW,if_pos ((oS _ _).2 (h y (by simp)))];exact Ih λx a=>h x (er _ a)
theorem Ck{s:ar}: ∀{r:ar},rK H s r=0↔ ∀x∈r,iw H s x.id x.pat.changes=0
 |[]=>by simp[rK]
 |y::r=>by
  rw[rK];constructor
  .intro h x a;obtain⟨b,c⟩:=yS h;rcases bF.1 a with rfl|a
   .exact b
   .exact Ck.1 c x a
  .intro h;rw[h y (by simp),sZ,Ck.2 λx a=>h x (er _ a)]
theorem DM{s:ar}(h:gl H s=0):s.length<=400/\ ∀x∈s,iw H s x.id x.pat.changes=0:=by
 unfold gl at h;split at h
 .cases h
 rename_i h0;obtain⟨c,b⟩:=yS h;obtain⟨d,a⟩:=yS b;split at a
 .cases a
 exact⟨by omega,(Ck H).1 a⟩
theorem HP{s:ar}(h:s.length<=400)(b: ∀x∈s,(bj H x.pat).2=0/\(bj H x.pat).1=x.id)(e:bT (b8 s))(c: ∀x∈s,∀d∈bu x.pat,d∈b8 s)(a:A8 s)(f: ∀x∈s,iw H s x.id x.pat.changes=0):gl H s=0:=by
 have g:s.length<=(dD s).length:=EX a c e.nodup s.length [] (λi d a=>by simp at a) (by simp);unfold gl;rw[if_neg a8,HN H s none b e,sZ,Ih c,sZ,if_neg a8,(Ck H).2 f]
theorem zp{s t:ar}{x:ak}{f:ay->Bool}(h:isZero x.p=false->bh s x.p=bh t x.p):j7 H s x f=j7 H t x f:=by
 unfold j7;cases a:isZero x.p with
 |true=>rfl
 |false=>
  have:ng H s x=ng H t x:=by unfold ng;rw[h a]
  rw[this]
theorem KM{s t:ar}{c:az}{id:Dg}: ∀{l:List ak},(∀y∈l,isZero y.p=false->bh s y.p=bh t y.p)->mJ H s c id l=mJ H t c id l
 |[],_=>rfl
 |x::l,h=>by
  rw[mJ,mJ,zp H (h x (by simp)),KM λy a=>h y (er _ a)]
theorem Qg{s t:ar}{c:az}{id:Dg}(h: ∀y∈iV c,isZero y.p=false->bh s y.p=bh t y.p):ni H s c id=ni H t c id:=by
 unfold iV at h;simp only[bF,forall_eq_or_imp]at h;obtain⟨a,b,d,e,f⟩:=h;unfold ni nr;rw[zp H a,zp H b,zp H d,zp H e,KM H f]
theorem Mc{s t:ar}{id:Dg}: ∀{l:List az},(∀c∈l,∀y∈iV c,isZero y.p=false->bh s y.p=bh t y.p)->iw H s id l=iw H t id l
 |[],_=>rfl
 |c::l,h=>by
  rw[iw,iw,Qg H (h c (by simp)),Mc λy a=>h y (er _ a)]
theorem yA{p:aU}(h:(bj H p).2=0):gj p=0:=by
 unfold bj at h;unfold gj;by_cases a:(cQ p).2≠0
 .rw[if_pos a]at h;exact h
 .exact fX a
theorem Cl{p:aU}(h:gj p=0): ∀c∈p.changes,∀y∈iV c,isZero y.p=false->y.p∈bu p:=by
 intro c hc y a b;unfold bu;rw[if_neg (by simp[h])];exact((BO _ _ (rQ _ _ bT.nil).1).2 _).2 (.inl ⟨c,hc,y,a,b,rfl⟩)
theorem Cm{s t:ar}{id:Dg}{p:aU}(hp:(bj H p).2=0)(h: ∀d∈bu p,bh s d=bh t d):iw H s id p.changes=iw H t id p.changes:=
 Mc H λc hc y a b=>h _ (Cl (yA H hp) c hc y a b)
end
theorem Jm{s:ar}{f:Dg->Bool}: ∀{d:Dg},f d=true->bh (s.filter λx=>f x.id) d=bh s d:=by
 induction s with
 |nil=>intro d _;rfl
 |cons x s c=>
  intro d b;by_cases a:f x.id=true
  .rw[List.filter_cons_of_pos (by simpa using a),bh,bh,c b]
  .rw[List.filter_cons_of_neg (by simpa using a),c b,bh,if_neg];intro e;rw[e]at a;exact a b
theorem Em{s:ar}{f:Dg->Bool}{d:Dg}:d∈b8 (s.filter λx=>f x.id)↔d∈b8 s/\f d=true:=by
 constructor
 .intro h;obtain⟨x,a,rfl⟩:=bM.1 h;obtain⟨b,c⟩:=na.1 a;exact⟨eR (f:=bD.id) b,c⟩
 .rintro⟨h,e⟩;obtain⟨x,a,rfl⟩:=bM.1 h;exact eR (f:=bD.id) (na.2 ⟨a,e⟩)
theorem Qh{H:bb->Dg}{s:ar}(h:gl H s=0)(f:Dg->Bool)(e: ∀x∈s,f x.id=true-> ∀d∈bu x.pat,f d=true):gl H (s.filter λx=>f x.id)=0:=by
 have c:=mw H h;obtain⟨g,i⟩:=DM H h;have hm: ∀x∈s.filter (λx=>f x.id),x∈s/\f x.id=true:=λx a=>na.1 a;refine HP H (ez (xE _ _) g) (λx a=>c.id x (hm x a).1) ?_ (λx a d b=>Em.2 ⟨c.needs x (hm x a).1 d b,e x (hm x a).1 (hm x a).2 d b⟩) ?_ (λx a=> ?_)
 .exact List.Pairwise.sublist (List.Sublist.map _ List.filter_sublist) c.sorted
 .obtain⟨r,b⟩:=DZ c;exact⟨r,λx a=>b x (hm x a).1⟩
 .rw[Cm H (t:=s) (c.id x (hm x a).1).1 λd b=>Jm (e x (hm x a).1 (hm x a).2 d b)];exact i x (hm x a).1
end Go.Proofs.Q
