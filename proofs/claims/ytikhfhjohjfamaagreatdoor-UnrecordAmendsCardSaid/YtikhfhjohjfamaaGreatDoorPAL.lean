/- Lemmas. -/
import Derived.Test.YtikhfhjohjfamaaGreatDoorPAK
set_option linter.unusedVariables false
set_option linter.unusedSimpArgs false
set_option maxRecDepth 100000
namespace Go.Proofs.Q
open Go Go.Bb Go.RowKit Go.Proofs.Lg
open Go.Ab (D RD)
theorem wP(s:bb):aI Tryz.prog 303 [dS s] (.agg (aj (dC s))):=by
 refine aL Tryz.f303 ?_ [300004];refine aC @ec trivial ?_
 all_goals rfl
theorem uI(l:List Sx):aI Tryz.prog 302 [.sl 3 (l.map aj)] (.agg (aj (de l))):=by
 refine aL Tryz.f302 ?_ [300004];refine aC @ec trivial ?_
 all_goals rfl
theorem Ez(a b:Sx):aI Tryz.prog 302 [.sl 3 [aj a,aj b]] (.agg (aj (de [a,b]))):=uI [a,b]
theorem JY(a b c d:Sx):aI Tryz.prog 302 [.sl 3 [aj a,aj b,aj c,aj d]] (.agg (aj (de [a,b,c,d]))):=uI [a,b,c,d]
theorem EA(a b c d e:Sx):aI Tryz.prog 302 [.sl 3 [aj a,aj b,aj c,aj d,aj e]] (.agg (aj (de [a,b,c,d,e]))):=uI [a,b,c,d,e]
theorem SY(a b c d e f:Sx):aI Tryz.prog 302 [.sl 3 [aj a,aj b,aj c,aj d,aj e,aj f]] (.agg (aj (de [a,b,c,d,e,f]))):=uI [a,b,c,d,e,f]
theorem rF(n:Int):aI Tryz.prog 304 [dI n] (.agg (aj (cU n))):=by
 refine aL Tryz.f304 ?_;exact bL @ec @Vr
theorem DN{α:Type}: ∀(n:Nat) (l:List α),l.length=n->chunk 1 n l=l.map λx=>[x]
 |0,[],_=>rfl
 |n+1,x::l,h=>by
  show[x]::chunk 1 n l=_;rw[DN n l (by simpa using h)];rfl
theorem DA: ∀(l:List Int),Bytes l->iS ((l.map λb=>D.sc (.int .u8 b)).map .d)=some (l.map λb=>UInt8.ofNat b.toNat)
 |[],_=>rfl
 |b::l,h=>by
  have a:=h b (by simp);have c:=DA l λx e=>h x (er _ e);simp only[bX,iS,so,a,c,and_self,if_true,eE,eY]
theorem Cz:((0:Int)<32/\(0:Int)<=0/\(0:Int)<=32/\(32:Int)<=32)=True:=by simp
theorem MP(d:Dg):chunk 1 (Int.toNat 32-Int.toNat 0) (List.take (Int.toNat 32-Int.toNat 0) (List.drop (Int.toNat 0) (au d)))=(au d).map λx=>[x]:=by
 show chunk 1 32 ((au d).take 32)=_;rw[tt,DN 32 _ (b9 d)]
theorem He(d:Dg):iS (List.map AV.d (List.map (λx=>[x]) (au d)).flatten)=some (d.l.map λb=>UInt8.ofNat b.toNat):=by
 have h:((au d).map λx=>[x]).flatten=au d:=by
  induction au d with
  |nil=>rfl
  |cons x l a=>simp[a]
 rw[h];unfold au;exact DA d.l d.by_
theorem Ln(d:Dg):aI Tryz.prog 377 [.agg (au d)] (dS (sD d)):=by
 refine aL Tryz.f377 ?_ [100001]
 repeat' first|refine ab (λ_=> ?_) λ_=> ?_|refine aH ?_|simp only[Cz,MP,He,wy,qg,aE,reduceCtorEq,reduceIte,Nat.reduceAdd,Nat.reduceMul,Nat.reduceEqDiff,Nat.reduceLT,Nat.reduceLeDiff,Nat.reduceSub,ax,aD,aB,aw]
 all_goals rfl
theorem Lx(d:Dg):aI Tryz.prog 299 [.agg (au d)] (.agg (aj (gK d))):=by
 refine aL Tryz.f299 ?_ [100001]
 repeat' first|refine ab (λ_=> ?_) λ_=> ?_|refine aG @ec (ga @lQ (ga @wP @Ln)) ?_|exact aF @ec (ga @lQ (ga @wP @Ln))|fail
 all_goals(simp_all[gK,cj];try exact ch)
theorem wQ(x:ak):aI Tryz.prog 378 [.agg (ae x)] (.agg (aj (bO x))):=by
 refine aL Tryz.f378 ?_ [100001,100009];refine aC @ec (ga @Lx (ga @rF @Ez)) ?_
 all_goals(simp_all[bO,cj];try exact ch)
theorem VN(l:List ak)(g:l.length<=1000000000):aI Tryz.prog 379 [.sl 33 (l.map ae)] (.agg (aj (fu l))):=by
 refine aL Tryz.f379 ?_ [100018] [[4,0,3,2]];refine aC @ec trivial ?_;refine aZ.overI l (λk (b:List Sx)=>[(4,iN k),(3,.tsl 1 3 (b.map aj))]) (λk b=>[.cells rV,.row 307 3 b.length]) (λr b=>b++r.map bO) (l.map bO) (λk b=>b.length=k) [] a8 aA aA rfl rfl rfl (λk b x hg hk c f a d=> ?_) (λb c a d=> ?_)
 .have e:bw (b.length+1) 48=true:=by simp only[bw,decide_eq_true_eq];omega
  refine aC (ga @c (ga @f (ga @hg @e))) @wQ ?_;exact⟨b++[bO x],by simp,by simp,by simpa using a,by simp[d]⟩
 .refine aC (ga @c @ec) @uI ?_;simp at a;rw[<-a];rfl
set_option maxHeartbeats 4000000 in
theorem VF(c:az)(f:1<=c.kind)(g:c.kind<=7)(e:c.over.length<=1000000000)(h:c.lines.length<=1000000000):aI Tryz.prog 300 [.agg (aR c)] (.agg (aj (cD c))):=by
 have d:=VN c.over e;obtain hk|hk|hk|hk|hk|hk|hk:c.kind=1\/c.kind=2\/c.kind=3\/c.kind=4\/c.kind=6\/c.kind=7\/c.kind=5:=by omega
 .have a:cD c=de [cU 1,cU c.type]:=by simp[cD,hk]
  rw[a];clear a f g e h;refine aL Tryz.f300 ?_ [100001,100022,100032,100043,100051,100059,100071,100091,100096,100105] [[5,1,4,3,2]]
  repeat' first|refine ab (λ_=> ?_) λ_=> ?_|refine aH ?_|refine af.data (rF _) rfl ?_|refine af.data (Ez _ _) rfl ?_|simp only[hk,ec,Int.reduceLE,Int.reduceLT,Int.reduceGE,Int.reduceGT,Int.reduceEq,Int.reduceNe,Int.reduceBEq,Int.reduceBNe,decide_true,decide_false,room_le,wy,qg,aE,reduceCtorEq,reduceIte,Nat.reduceAdd,Nat.reduceMul,Nat.reduceEqDiff,Nat.reduceLT,Nat.reduceLeDiff,Nat.reduceSub,ax,aD,aB,aw]
 .have a:cD c=de [cU 2,bO c.file,bO c.parent,dC c.name,fu c.over]:=by simp[cD,hk]
  rw[a];clear a f g e h;refine aL Tryz.f300 ?_ [100001,100022,100032,100043,100051,100059,100071,100091,100096,100105] [[5,1,4,3,2]]
  repeat' first|refine ab (λ_=> ?_) λ_=> ?_|refine aH ?_|refine af.data (rF _) rfl ?_|refine af.data (wQ _) rfl ?_|refine af.data (wP _) rfl ?_|refine af.data (d) rfl ?_|refine af.data (EA _ _ _ _ _) rfl ?_|simp only[hk,ec,Int.reduceLE,Int.reduceLT,Int.reduceGE,Int.reduceGT,Int.reduceEq,Int.reduceNe,Int.reduceBEq,Int.reduceBNe,decide_true,decide_false,room_le,wy,qg,aE,reduceCtorEq,reduceIte,Nat.reduceAdd,Nat.reduceMul,Nat.reduceEqDiff,Nat.reduceLT,Nat.reduceLeDiff,Nat.reduceSub,ax,aD,aB,aw]
 .have a:cD c=de [cU 3,bO c.file,cU c.mode,fu c.over]:=by simp[cD,hk]
  rw[a];clear a f g e h;refine aL Tryz.f300 ?_ [100001,100022,100032,100043,100051,100059,100071,100091,100096,100105] [[5,1,4,3,2]]
  repeat' first|refine ab (λ_=> ?_) λ_=> ?_|refine aH ?_|refine af.data (rF _) rfl ?_|refine af.data (wQ _) rfl ?_|refine af.data (d) rfl ?_|refine af.data (JY _ _ _ _) rfl ?_|simp only[hk,ec,Int.reduceLE,Int.reduceLT,Int.reduceGE,Int.reduceGT,Int.reduceEq,Int.reduceNe,Int.reduceBEq,Int.reduceBNe,decide_true,decide_false,room_le,wy,qg,aE,reduceCtorEq,reduceIte,Nat.reduceAdd,Nat.reduceMul,Nat.reduceEqDiff,Nat.reduceLT,Nat.reduceLeDiff,Nat.reduceSub,ax,aD,aB,aw]
 .have a:cD c=de [cU 4,bO c.file,dC c.data,fu c.over]:=by simp[cD,hk]
  rw[a];clear a f g e h;refine aL Tryz.f300 ?_ [100001,100022,100032,100043,100051,100059,100071,100091,100096,100105] [[5,1,4,3,2]]
  repeat' first|refine ab (λ_=> ?_) λ_=> ?_|refine aH ?_|refine af.data (rF _) rfl ?_|refine af.data (wQ _) rfl ?_|refine af.data (wP _) rfl ?_|refine af.data (d) rfl ?_|refine af.data (JY _ _ _ _) rfl ?_|simp only[hk,ec,Int.reduceLE,Int.reduceLT,Int.reduceGE,Int.reduceGT,Int.reduceEq,Int.reduceNe,Int.reduceBEq,Int.reduceBNe,decide_true,decide_false,room_le,wy,qg,aE,reduceCtorEq,reduceIte,Nat.reduceAdd,Nat.reduceMul,Nat.reduceEqDiff,Nat.reduceLT,Nat.reduceLeDiff,Nat.reduceSub,ax,aD,aB,aw]
 .have a:cD c=de [cU 6,bO c.file,bO c.after,bO c.before,fu c.over]:=by simp[cD,hk]
  rw[a];clear a f g e h;refine aL Tryz.f300 ?_ [100001,100022,100032,100043,100051,100059,100071,100091,100096,100105] [[5,1,4,3,2]]
  repeat' first|refine ab (λ_=> ?_) λ_=> ?_|refine aH ?_|refine af.data (rF _) rfl ?_|refine af.data (wQ _) rfl ?_|refine af.data (d) rfl ?_|refine af.data (EA _ _ _ _ _) rfl ?_|simp only[hk,ec,Int.reduceLE,Int.reduceLT,Int.reduceGE,Int.reduceGT,Int.reduceEq,Int.reduceNe,Int.reduceBEq,Int.reduceBNe,decide_true,decide_false,room_le,wy,qg,aE,reduceCtorEq,reduceIte,Nat.reduceAdd,Nat.reduceMul,Nat.reduceEqDiff,Nat.reduceLT,Nat.reduceLeDiff,Nat.reduceSub,ax,aD,aB,aw]
 .have a:cD c=de [cU 7,fu c.over]:=by simp[cD,hk]
  rw[a];clear a f g e h;refine aL Tryz.f300 ?_ [100001,100022,100032,100043,100051,100059,100071,100091,100096,100105] [[5,1,4,3,2]]
  repeat' first|refine ab (λ_=> ?_) λ_=> ?_|refine aH ?_|refine af.data (rF _) rfl ?_|refine af.data (d) rfl ?_|refine af.data (Ez _ _) rfl ?_|simp only[hk,ec,Int.reduceLE,Int.reduceLT,Int.reduceGE,Int.reduceGT,Int.reduceEq,Int.reduceNe,Int.reduceBEq,Int.reduceBNe,decide_true,decide_false,room_le,wy,qg,aE,reduceCtorEq,reduceIte,Nat.reduceAdd,Nat.reduceMul,Nat.reduceEqDiff,Nat.reduceLT,Nat.reduceLeDiff,Nat.reduceSub,ax,aD,aB,aw]
 .have a:cD c=de [cU 5,bO c.file,bO c.after,bO c.before,de (c.lines.map dC)]:=by simp[cD,hk]
  rw[a];clear a f g e d;refine aL Tryz.f300 ?_ [100001,100022,100032,100043,100051,100059,100071,100091,100096,100105] [[5,1,4,3,2]]
  repeat' first|refine ab (λ_=> ?_) λ_=> ?_|refine aH ?_|refine af.data (rF _) rfl ?_|refine af.data (wQ _) rfl ?_|simp only[hk,ec,Int.reduceLE,Int.reduceLT,Int.reduceGE,Int.reduceGT,Int.reduceEq,Int.reduceNe,Int.reduceBEq,Int.reduceBNe,decide_true,decide_false,room_le,wy,qg,aE,reduceCtorEq,reduceIte,Nat.reduceAdd,Nat.reduceMul,Nat.reduceEqDiff,Nat.reduceLT,Nat.reduceLeDiff,Nat.reduceSub,ax,aD,aB,aw]
  refine aZ.overI c.lines (λk (b:List Sx)=>[(5,iN k),(4,.tsl 2 3 (b.map aj))]) (λk b=>[.cells rV,.row 307 3 4,.row 307 3 b.length]) (λr b=>b++r.map dC) (c.lines.map dC) (λk b=>b.length=k) [] a8 aA aA rfl rfl rfl (λk b x hg m j o i l=> ?_) (λb j i l=> ?_)
  .have n:bw (b.length+1) 48=true:=by simp only[bw,decide_eq_true_eq];omega
   repeat' first|refine ab (λ_=> ?_) λ_=> ?_|refine aH ?_|refine af.data (wP _) rfl ?_|simp only[j,o,hg,n,fA,wy,qg,aE,reduceCtorEq,reduceIte,Nat.reduceAdd,Nat.reduceMul,Nat.reduceEqDiff,Nat.reduceLT,Nat.reduceLeDiff,Nat.reduceSub,ax,aD,aB,aw]
   exact⟨b++[dC x],by simp,by simp,by simpa using i,by simp[l]⟩
  .simp at i;subst i
   repeat' first|refine ab (λ_=> ?_) λ_=> ?_|refine aH ?_|refine af.data (uI _) rfl ?_|refine af.data (EA _ _ _ _ _) rfl ?_|simp only[j,hk,ec,Int.reduceLE,Int.reduceLT,Int.reduceGE,Int.reduceGT,Int.reduceEq,Int.reduceNe,Int.reduceBEq,Int.reduceBNe,decide_true,decide_false,room_le,wy,qg,aE,reduceCtorEq,reduceIte,Nat.reduceAdd,Nat.reduceMul,Nat.reduceEqDiff,Nat.reduceLT,Nat.reduceLeDiff,Nat.reduceSub,ax,aD,aB,aw]
   all_goals trace_state
set_option maxRecDepth 10000 in
theorem I4(fr:Fr)(s:List aa):CI.sem fr s (.bld z64 [(0,1,(.c (.d (.sc (.int .u32 1116352408))))),(1,1,(.c (.d (.sc (.int .u32 1899447441))))),(2,1,(.c (.d (.sc (.int .u32 3049323471))))),(3,1,(.c (.d (.sc (.int .u32 3921009573))))),(4,1,(.c (.d (.sc (.int .u32 961987163))))),(5,1,(.c (.d (.sc (.int .u32 1508970993))))),(6,1,(.c (.d (.sc (.int .u32 2453635748))))),(7,1,(.c (.d (.sc (.int .u32 2870763221))))),(8,1,(.c (.d (.sc (.int .u32 3624381080))))),(9,1,(.c (.d (.sc (.int .u32 310598401))))),(10,1,(.c (.d (.sc (.int .u32 607225278))))),(11,1,(.c (.d (.sc (.int .u32 1426881987))))),(12,1,(.c (.d (.sc (.int .u32 1925078388))))),(13,1,(.c (.d (.sc (.int .u32 2162078206))))),(14,1,(.c (.d (.sc (.int .u32 2614888103))))),(15,1,(.c (.d (.sc (.int .u32 3248222580))))),(16,1,(.c (.d (.sc (.int .u32 3835390401))))),(17,1,(.c (.d (.sc (.int .u32 4022224774))))),(18,1,(.c (.d (.sc (.int .u32 264347078))))),(19,1,(.c (.d (.sc (.int .u32 604807628))))),(20,1,(.c (.d (.sc (.int .u32 770255983))))),(21,1,(.c (.d (.sc (.int .u32 1249150122))))),(22,1,(.c (.d (.sc (.int .u32 1555081692))))),(23,1,(.c (.d (.sc (.int .u32 1996064986))))),(24,1,(.c (.d (.sc (.int .u32 2554220882))))),(25,1,(.c (.d (.sc (.int .u32 2821834349))))),(26,1,(.c (.d (.sc (.int .u32 2952996808))))),(27,1,(.c (.d (.sc (.int .u32 3210313671))))),(28,1,(.c (.d (.sc (.int .u32 3336571891))))),(29,1,(.c (.d (.sc (.int .u32 3584528711))))),(30,1,(.c (.d (.sc (.int .u32 113926993))))),(31,1,(.c (.d (.sc (.int .u32 338241895))))),(32,1,(.c (.d (.sc (.int .u32 666307205))))),(33,1,(.c (.d (.sc (.int .u32 773529912))))),(34,1,(.c (.d (.sc (.int .u32 1294757372))))),(35,1,(.c (.d (.sc (.int .u32 1396182291))))),(36,1,(.c (.d (.sc (.int .u32 1695183700))))),(37,1,(.c (.d (.sc (.int .u32 1986661051))))),(38,1,(.c (.d (.sc (.int .u32 2177026350))))),(39,1,(.c (.d (.sc (.int .u32 2456956037))))),(40,1,(.c (.d (.sc (.int .u32 2730485921))))),(41,1,(.c (.d (.sc (.int .u32 2820302411))))),(42,1,(.c (.d (.sc (.int .u32 3259730800))))),(43,1,(.c (.d (.sc (.int .u32 3345764771))))),(44,1,(.c (.d (.sc (.int .u32 3516065817))))),(45,1,(.c (.d (.sc (.int .u32 3600352804))))),(46,1,(.c (.d (.sc (.int .u32 4094571909))))),(47,1,(.c (.d (.sc (.int .u32 275423344))))),(48,1,(.c (.d (.sc (.int .u32 430227734))))),(49,1,(.c (.d (.sc (.int .u32 506948616))))),(50,1,(.c (.d (.sc (.int .u32 659060556))))),(51,1,(.c (.d (.sc (.int .u32 883997877))))),(52,1,(.c (.d (.sc (.int .u32 958139571))))),(53,1,(.c (.d (.sc (.int .u32 1322822218))))),(54,1,(.c (.d (.sc (.int .u32 1537002063))))),(55,1,(.c (.d (.sc (.int .u32 1747873779))))),(56,1,(.c (.d (.sc (.int .u32 1955562222))))),(57,1,(.c (.d (.sc (.int .u32 2024104815))))),(58,1,(.c (.d (.sc (.int .u32 2227730452))))),(59,1,(.c (.d (.sc (.int .u32 2361852424))))),(60,1,(.c (.d (.sc (.int .u32 2428436474))))),(61,1,(.c (.d (.sc (.int .u32 2756734187))))),(62,1,(.c (.d (.sc (.int .u32 3204031479))))),(63,1,(.c (.d (.sc (.int .u32 3329325298)))))])=some (.d (.agg (bx .u32 gP)),s):=by rfl
theorem NX{vs:List AV}(h:vs.length=64):ba z64 0 64 vs=some vs:=iE (by simp[z64,bx]) h
set_option maxRecDepth 10000 in
theorem Vu:aI Tryz.prog 307 [] (.agg (bx .u32 gP)):=by
 have b:gP.length=64:=by decide
 have a:(bx .u32 gP).take 64=bx .u32 gP:=dL (by rw[ff,b];decide);refine aL Tryz.f307 ?_ [300001]
 repeat' first|refine ab (λ_=> ?_) λ_=> ?_|refine aH ?_|simp only[↓I4,NX,aM,ff,b,a,wy,qg,aE,reduceCtorEq,reduceIte,Nat.reduceAdd,Nat.reduceMul,Nat.reduceEqDiff,Nat.reduceLT,Nat.reduceLeDiff,Nat.reduceSub,ax,aD,aB,aw]
theorem JZ: ∀{v:List Int},v.length=8-> ∃a b c d e f g i,v=[a,b,c,d,e,f,g,i]
 |[a,b,c,d,e,f,g,i],_=>⟨a,b,c,d,e,f,g,i,rfl⟩
theorem FQ: ∀(l:List (Int×Int)) (v:List Int),v.length=8->(rounds l v).length=8
 |[],v,h=>h
 |(k,w)::l,v,h=>by
  rw[rounds];refine FQ l _ ?_
  match v,h with
  |[a,b,c,d,e,f,g,i],_=>rfl
theorem xQ(v:List Int): ∀(l:List Nat) (h:List Int),(oQ v l h).length=h.length
 |[],h=>rfl
 |i::l,h=>by rw[oQ,ig];exact(xQ v l _).trans (by simp)
set_option maxRecDepth 20000 in
set_option maxHeartbeats 4000000 in
theorem Vx(h:List Int)(s:bb)(u:h.length=8)(N:s.size=64):aI Tryz.prog 239 [.agg (bx .u32 h),dS s] (.agg (bx .u32 (jn h s))):=by
 have G:=Vw s N;have q:(sched s).length=64:=by rw[sched,G3,G2];simp
 have p:gP.length=64:=by decide
 have E:(bx .u32 (sched s)).take 64=bx .u32 (sched s):=dL (by rw[ff,q];decide);have D:(bx .u32 gP).take 64=bx .u32 gP:=dL (by rw[ff,p];decide);have F:(bx .u32 h).take 8=bx .u32 h:=dL (by rw[ff,u];decide);refine aL Tryz.f239 ?_ [300099] [[8,7,5,6,2,4],[13,2,7,4]]
 repeat' first|refine ab (λ_=> ?_) λ_=> ?_|refine aH ?_|refine af.data (G) rfl ?_|refine af.data (Vu) rfl ?_|simp only[z64,z8,mL (gH ..),aM,ff,q,p,u,E,D,F,wy,qg,aE,reduceCtorEq,reduceIte,Nat.reduceAdd,Nat.reduceMul,Nat.reduceEqDiff,Nat.reduceLT,Nat.reduceLeDiff,Nat.reduceSub,ax,aD,aB,aw]
 clear G E D F;obtain⟨R,j⟩: ∃R,R=rounds (gP.zip (sched s)) h:=⟨_,rfl⟩
 have A:R.length=8:=by rw[j];exact FQ _ _ u
 have J:jn h s=oQ R (List.range 8) h:=by rw[j];rfl
 rw[J];clear J
 refine aZ.overI (gP.zip (sched s)) (λk (v:List Int)=>[(8,iN k)]) (λk v=>[.cells ((bx .u32 h).map .d),.cells ((bx .u32 (List.replicate 8 0)).map .d),.cells ((bx .u32 (sched s)).map .d),.cells ((bx .u32 gP).map .d),.cells ((bx .u32 v).map .d)]) (λr v=>rounds r v) R (λk v=>v.length=8) h (by rw[xG,q,p];decide) aA aA rfl j u (λk v x hg hk t C m n=> ?_) (λv t m n=> ?_)
 .obtain⟨P,Q⟩:=x;obtain⟨H,I⟩:=tN hg;rw[xG,q,p]at hk;have o:((k:Int)<64)=True:=by simp;omega
  rw[rounds]at m;dsimp only at H I;clear j A t q p hg;obtain⟨a,b,c,d,e,f,g,i,rfl⟩:=JZ n
  .have z: ∀vs:List AV,vs.length=8->ba ((bx .u32 [a,b,c,d,e,f,g,i]).map .d) 0 8 vs=some vs:=λvs h=>mL (k:= .u32) (l:=[a,b,c,d,e,f,g,i]) rfl h
   repeat' first|refine ab (λ_=> ?_) λ_=> ?_|refine aH ?_|refine af.data (qn _ 6 (by decide)) rfl ?_|refine af.data (qn _ 11 (by decide)) rfl ?_|refine af.data (qn _ 25 (by decide)) rfl ?_|refine af.data (qn _ 2 (by decide)) rfl ?_|refine af.data (qn _ 13 (by decide)) rfl ?_|refine af.data (qn _ 22 (by decide)) rfl ?_|simp only[o,C,H,I,pk,Int.reduceToNat,z8,ox,z,aM,ff,jU,gH,Nat.zero_lt_succ,Int.reduceLE,Int.reduceLT,Int.reduceGE,Int.reduceGT,Int.reduceEq,Int.reduceNe,Int.reduceBEq,Int.reduceBNe,decide_true,decide_false,wy,qg,aE,reduceCtorEq,reduceIte,Nat.reduceAdd,Nat.reduceMul,Nat.reduceEqDiff,Nat.reduceLT,Nat.reduceLeDiff,Nat.reduceSub,ax,aD,aB,aw]
   exact⟨FP P Q [a,b,c,d,e,f,g,i],rfl,m,rfl⟩
 .have O:(gP.zip (sched s)).length=64:=by rw[xG,q,p];decide
  have B:R=v:=m;subst B
  repeat' first|refine ab (λ_=> ?_) λ_=> ?_|refine aH ?_|simp only[O,Int.reduceLE,Int.reduceLT,Int.reduceGE,Int.reduceGT,Int.reduceEq,Int.reduceNe,Int.reduceBEq,Int.reduceBNe,decide_true,decide_false,wy,qg,aE,reduceCtorEq,reduceIte,Nat.reduceAdd,Nat.reduceMul,Nat.reduceEqDiff,Nat.reduceLT,Nat.reduceLeDiff,Nat.reduceSub,ax,aD,aB,aw]
  refine aZ.overI (List.range 8) (λk (v:List Int)=>[(13,iN k)]) (λk v=>[.cells ((bx .u32 v).map .d),.cells ((bx .u32 (List.replicate 8 0)).map .d),.cells ((bx .u32 (sched s)).map .d),.cells ((bx .u32 gP).map .d),.cells ((bx .u32 R).map .d)]) (λr v=>oQ R r v) (oQ R (List.range 8) h) (λk v=>v.length=8) h (by decide) aA aA rfl rfl u (λk v x hg hk t C m n=> ?_) (λv t m n=> ?_)
  .simp only[dX]at hk;obtain rfl:k=x:=by rw[qK a8]at hg;simpa using hg
   have o:((k:Int)<8)=True:=by simp;omega
   have L:=im (w:=v) (i:=k) a8;have M:=im (w:=R) (i:=k) a8;have y:=λx=>ox (k:= .u32) (l:=v) (i:=k) a8 x;clear t
   repeat' first|refine ab (λ_=> ?_) λ_=> ?_|refine aH ?_|simp only[o,C,L,M,pk,y,Int.reduceLE,Int.reduceLT,Int.reduceGE,Int.reduceGT,Int.reduceEq,Int.reduceNe,Int.reduceBEq,Int.reduceBNe,decide_true,decide_false,wy,qg,aE,reduceCtorEq,reduceIte,Nat.reduceAdd,Nat.reduceMul,Nat.reduceEqDiff,Nat.reduceLT,Nat.reduceLeDiff,Nat.reduceSub,ax,aD,aB,aw]
   exact⟨v.set k (aW (at_ v k) (at_ R k)),rfl,m,by simp[n]⟩
  .have B:oQ R (List.range 8) h=v:=m;have K:(bx .u32 v).take 8=bx .u32 v:=dL (by rw[ff,n];decide)
   repeat' first|refine ab (λ_=> ?_) λ_=> ?_|refine aH ?_|simp only[Int.reduceLE,Int.reduceLT,Int.reduceGE,Int.reduceGT,Int.reduceEq,Int.reduceNe,Int.reduceBEq,Int.reduceBNe,decide_true,decide_false,dX,K,mL (gH ..),aM,ff,n,wy,qg,aE,reduceCtorEq,reduceIte,Nat.reduceAdd,Nat.reduceMul,Nat.reduceEqDiff,Nat.reduceLT,Nat.reduceLeDiff,Nat.reduceSub,ax,aD,aB,aw]
   rw[B]
end Go.Proofs.Q
