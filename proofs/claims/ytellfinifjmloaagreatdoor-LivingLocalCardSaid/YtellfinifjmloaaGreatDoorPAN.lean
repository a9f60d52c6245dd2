/- Lemmas. -/
import Derived.Test.YtellfinifjmloaaGreatDoorPAK
import Derived.Test.YtellfinifjmloaaGreatDoorPAM
set_option linter.unusedVariables false
set_option linter.unusedSimpArgs false
namespace Go.Proofs.Q
open Go Go.Bb Go.RowKit Go.Proofs.Lg
open Go.Ab (D RD)
theorem vw(s:bh):aG Tryz.prog 212 [dS s] (.agg (ak (dE s))):=by
 refine aM (F:=Cp) Y0 (by simp[Cp]) ?_;simp only[Cp];refine aO @dH ab ?_
 all_goals rfl
theorem tK(l:List Sx):aG Tryz.prog 211 [.sl 3 (l.map ak)] (.agg (ak (cP l))):=by
 refine aM (F:=Cy) Y7 (by simp[Cy]) ?_;simp only[Cy];refine aO @dH ab ?_
 all_goals rfl
theorem FV(a b:Sx):aG Tryz.prog 211 [.sl 3 [ak a,ak b]] (.agg (ak (cP [a,b]))):=tK [a,b]
theorem L5(a b c d:Sx):aG Tryz.prog 211 [.sl 3 [ak a,ak b,ak c,ak d]] (.agg (ak (cP [a,b,c,d]))):=tK [a,b,c,d]
theorem FX(a b c d e:Sx):aG Tryz.prog 211 [.sl 3 [ak a,ak b,ak c,ak d,ak e]] (.agg (ak (cP [a,b,c,d,e]))):=tK [a,b,c,d,e]
theorem U1(a b c d e f:Sx):aG Tryz.prog 211 [.sl 3 [ak a,ak b,ak c,ak d,ak e,ak f]] (.agg (ak (cP [a,b,c,d,e,f]))):=tK [a,b,c,d,e,f]
theorem qn(n:Int):aG Tryz.prog 213 [dI n] (.agg (ak (cp n))):=by
 refine aM (F:=CA) Y9 (by simp[CA]) ?_;simp only[CA];exact bU @dH @ZP
theorem F9{α:Type}: ∀(n:Nat) (l:List α),l.length=n→chunk 1 n l=l.map fun x=>[x]
 |0,[],_=>rfl
 |n+1,x::l,h=>by
  show[x]::chunk 1 n l=_;rw[F9 n l (by simpa using h)];rfl
theorem F1: ∀(l:List Int),Bytes l→gH ((l.map fun b=>D.sc (.int .u8 b)).map .d)=some (l.map fun b=>UInt8.ofNat b.toNat)
 |[],_=>rfl
 |b::l,h=>by
  have a:=h b (by simp);have c:=F1 l fun x e=>h x (eQ _ e);simp only[bV,gH,qO,a,c,and_self,if_true,dP,eZ]
theorem Eg:((0:Int)<32∧(0:Int)≤0∧(0:Int)≤32∧(32:Int)≤32)=True:=by simp
theorem OI(d:Dg):chunk 1 (Int.toNat 32-Int.toNat 0) (List.take (Int.toNat 32-Int.toNat 0) (List.drop (Int.toNat 0) (aP d)))=(aP d).map fun x=>[x]:=by
 show chunk 1 32 ((aP d).take 32)=_;rw[rF,F9 32 _ (ba d)]
theorem Iw(d:Dg):gH (List.map AV.d (List.map (fun x=>[x]) (aP d)).flatten)=some (d.l.map fun b=>UInt8.ofNat b.toNat):=by
 have h:((aP d).map fun x=>[x]).flatten=aP d:=by
  induction aP d with
  |nil=>rfl
  |cons x l a=>simp[a]
 rw[h];unfold aP;exact F1 d.l d.by_
theorem Nk(d:Dg):aG Tryz.prog 267 [.agg (aP d)] (dS (zO d)):=by
 refine aM (F:=BY) XE (by simp[BY]) ?_;simp only[BY]
 repeat' first|refine ae (fun _=> ?_) fun _=> ?_|refine aL ?_|simp only[Eg,OI,Iw,wy,qg,aH,reduceCtorEq,reduceIte,Nat.reduceAdd,Nat.reduceMul,Nat.reduceEqDiff,Nat.reduceLT,Nat.reduceLeDiff,Nat.reduceSub,aA,aF,aE,aw]
 all_goals rfl
theorem Ny(d:Dg):aG Tryz.prog 208 [.agg (aP d)] (.agg (ak (gm d))):=by
 refine aM (F:=Cs) Y2 (by simp[Cs]) ?_;simp only[Cs]
 repeat' first|refine ae (fun _=> ?_) fun _=> ?_|refine ay @dH (ga @kH (ga @vw @Nk)) ?_|exact ax @dH (ga @kH (ga @vw @Nk))|fail
 all_goals(simp_all[gm,cG];try exact cB)
theorem vx(x:af):aG Tryz.prog 268 [.agg (aj x)] (.agg (ak (bH x))):=by
 refine aM (F:=CE) Yc (by simp[CE]) ?_;simp only[CE];refine aO @dH (ga @Ny (ga @qn @FV)) ?_
 all_goals(simp_all[bH,cG];try exact cB)
theorem a0h(l:List af)(g:l.length≤1000000000):aG Tryz.prog 269 [.sl 33 (l.map aj)] (.agg (ak (eH l))):=by
 refine aM (F:=CD) Yb (by simp[CD]) ?_;simp only[CD];refine aO @dH ab ?_;refine aZ.overI l (fun k (b:List Sx)=>[(4,iN k),(3,.tsl 1 3 (b.map ak))]) (fun k b=>[.cells ep,.row 217 3 b.length]) (fun r b=>b++r.map bH) (l.map bH) (fun k b=>b.length=k) [] a8 aB aB rfl rfl rfl (fun k b x hg hk c f a d=> ?_) (fun b c a d=> ?_)
 ·have e:bw (b.length+1) 48=true:=by simp only[bw,decide_eq_true_eq];omega
  refine aO (ga @c (ga @f (ga @hg @e))) @vx ?_;exact⟨b++[bH x],by simp,by simp,by simpa using a,by simp[d]⟩
 ·refine aO (ga @c @dH) @tK ?_;simp at a;rw[←a];rfl
set_option maxHeartbeats 4000000 in
theorem a0a(c:aC)(f:1≤c.kind)(g:c.kind≤7)(e:c.over.length≤1000000000)(h:c.lines.length≤1000000000):aG Tryz.prog 209 [.agg (aV c)] (.agg (ak (bY c))):=by
 have d:=a0h c.over e;obtain hk|hk|hk|hk|hk|hk|hk:c.kind=1∨c.kind=2∨c.kind=3∨c.kind=4∨c.kind=6∨c.kind=7∨c.kind=5:=by omega
 ·have a:bY c=cP [cp 1,cp c.type]:=by simp[bY,hk]
  rw[a];clear a f g e h;refine aM (F:=gJ) tG (by simp[gJ]) ?_;simp only[gJ]
  repeat' first|refine ae (fun _=> ?_) fun _=> ?_|refine aL ?_|refine aq.data (qn _) rfl ?_|refine aq.data (FV _ _) rfl ?_|simp only[hk,dH,Int.reduceLE,Int.reduceLT,Int.reduceGE,Int.reduceGT,Int.reduceEq,Int.reduceNe,Int.reduceBEq,Int.reduceBNe,decide_true,decide_false,room_le,wy,qg,aH,reduceCtorEq,reduceIte,Nat.reduceAdd,Nat.reduceMul,Nat.reduceEqDiff,Nat.reduceLT,Nat.reduceLeDiff,Nat.reduceSub,aA,aF,aE,aw]
 ·have a:bY c=cP [cp 2,bH c.file,bH c.parent,dE c.name,eH c.over]:=by simp[bY,hk]
  rw[a];clear a f g e h;refine aM (F:=gJ) tG (by simp[gJ]) ?_;simp only[gJ]
  repeat' first|refine ae (fun _=> ?_) fun _=> ?_|refine aL ?_|refine aq.data (qn _) rfl ?_|refine aq.data (vx _) rfl ?_|refine aq.data (vw _) rfl ?_|refine aq.data (d) rfl ?_|refine aq.data (FX _ _ _ _ _) rfl ?_|simp only[hk,dH,Int.reduceLE,Int.reduceLT,Int.reduceGE,Int.reduceGT,Int.reduceEq,Int.reduceNe,Int.reduceBEq,Int.reduceBNe,decide_true,decide_false,room_le,wy,qg,aH,reduceCtorEq,reduceIte,Nat.reduceAdd,Nat.reduceMul,Nat.reduceEqDiff,Nat.reduceLT,Nat.reduceLeDiff,Nat.reduceSub,aA,aF,aE,aw]
 ·have a:bY c=cP [cp 3,bH c.file,cp c.mode,eH c.over]:=by simp[bY,hk]
  rw[a];clear a f g e h;refine aM (F:=gJ) tG (by simp[gJ]) ?_;simp only[gJ]
  repeat' first|refine ae (fun _=> ?_) fun _=> ?_|refine aL ?_|refine aq.data (qn _) rfl ?_|refine aq.data (vx _) rfl ?_|refine aq.data (d) rfl ?_|refine aq.data (L5 _ _ _ _) rfl ?_|simp only[hk,dH,Int.reduceLE,Int.reduceLT,Int.reduceGE,Int.reduceGT,Int.reduceEq,Int.reduceNe,Int.reduceBEq,Int.reduceBNe,decide_true,decide_false,room_le,wy,qg,aH,reduceCtorEq,reduceIte,Nat.reduceAdd,Nat.reduceMul,Nat.reduceEqDiff,Nat.reduceLT,Nat.reduceLeDiff,Nat.reduceSub,aA,aF,aE,aw]
 ·have a:bY c=cP [cp 4,bH c.file,dE c.data,eH c.over]:=by simp[bY,hk]
  rw[a];clear a f g e h;refine aM (F:=gJ) tG (by simp[gJ]) ?_;simp only[gJ]
  repeat' first|refine ae (fun _=> ?_) fun _=> ?_|refine aL ?_|refine aq.data (qn _) rfl ?_|refine aq.data (vx _) rfl ?_|refine aq.data (vw _) rfl ?_|refine aq.data (d) rfl ?_|refine aq.data (L5 _ _ _ _) rfl ?_|simp only[hk,dH,Int.reduceLE,Int.reduceLT,Int.reduceGE,Int.reduceGT,Int.reduceEq,Int.reduceNe,Int.reduceBEq,Int.reduceBNe,decide_true,decide_false,room_le,wy,qg,aH,reduceCtorEq,reduceIte,Nat.reduceAdd,Nat.reduceMul,Nat.reduceEqDiff,Nat.reduceLT,Nat.reduceLeDiff,Nat.reduceSub,aA,aF,aE,aw]
 ·have a:bY c=cP [cp 6,bH c.file,bH c.after,bH c.before,eH c.over]:=by simp[bY,hk]
  rw[a];clear a f g e h;refine aM (F:=gJ) tG (by simp[gJ]) ?_;simp only[gJ]
  repeat' first|refine ae (fun _=> ?_) fun _=> ?_|refine aL ?_|refine aq.data (qn _) rfl ?_|refine aq.data (vx _) rfl ?_|refine aq.data (d) rfl ?_|refine aq.data (FX _ _ _ _ _) rfl ?_|simp only[hk,dH,Int.reduceLE,Int.reduceLT,Int.reduceGE,Int.reduceGT,Int.reduceEq,Int.reduceNe,Int.reduceBEq,Int.reduceBNe,decide_true,decide_false,room_le,wy,qg,aH,reduceCtorEq,reduceIte,Nat.reduceAdd,Nat.reduceMul,Nat.reduceEqDiff,Nat.reduceLT,Nat.reduceLeDiff,Nat.reduceSub,aA,aF,aE,aw]
 ·have a:bY c=cP [cp 7,eH c.over]:=by simp[bY,hk]
  rw[a];clear a f g e h;refine aM (F:=gJ) tG (by simp[gJ]) ?_;simp only[gJ]
  repeat' first|refine ae (fun _=> ?_) fun _=> ?_|refine aL ?_|refine aq.data (qn _) rfl ?_|refine aq.data (d) rfl ?_|refine aq.data (FV _ _) rfl ?_|simp only[hk,dH,Int.reduceLE,Int.reduceLT,Int.reduceGE,Int.reduceGT,Int.reduceEq,Int.reduceNe,Int.reduceBEq,Int.reduceBNe,decide_true,decide_false,room_le,wy,qg,aH,reduceCtorEq,reduceIte,Nat.reduceAdd,Nat.reduceMul,Nat.reduceEqDiff,Nat.reduceLT,Nat.reduceLeDiff,Nat.reduceSub,aA,aF,aE,aw]
 ·have a:bY c=cP [cp 5,bH c.file,bH c.after,bH c.before,cP (c.lines.map dE)]:=by simp[bY,hk]
  rw[a];clear a f g e d;refine aM (F:=gJ) tG (by simp[gJ]) ?_;simp only[gJ]
  repeat' first|refine ae (fun _=> ?_) fun _=> ?_|refine aL ?_|refine aq.data (qn _) rfl ?_|refine aq.data (vx _) rfl ?_|simp only[hk,dH,Int.reduceLE,Int.reduceLT,Int.reduceGE,Int.reduceGT,Int.reduceEq,Int.reduceNe,Int.reduceBEq,Int.reduceBNe,decide_true,decide_false,room_le,wy,qg,aH,reduceCtorEq,reduceIte,Nat.reduceAdd,Nat.reduceMul,Nat.reduceEqDiff,Nat.reduceLT,Nat.reduceLeDiff,Nat.reduceSub,aA,aF,aE,aw]
  refine aZ.overI c.lines (fun k (b:List Sx)=>[(5,iN k),(4,.tsl 2 3 (b.map ak))]) (fun k b=>[.cells ep,.row 217 3 4,.row 217 3 b.length]) (fun r b=>b++r.map dE) (c.lines.map dE) (fun k b=>b.length=k) [] a8 aB aB rfl rfl rfl (fun k b x hg m j o i l=> ?_) (fun b j i l=> ?_)
  ·have n:bw (b.length+1) 48=true:=by simp only[bw,decide_eq_true_eq];omega
   repeat' first|refine ae (fun _=> ?_) fun _=> ?_|refine aL ?_|refine aq.data (vw _) rfl ?_|simp only[j,o,hg,n,eW,wy,qg,aH,reduceCtorEq,reduceIte,Nat.reduceAdd,Nat.reduceMul,Nat.reduceEqDiff,Nat.reduceLT,Nat.reduceLeDiff,Nat.reduceSub,aA,aF,aE,aw]
   exact⟨b++[dE x],by simp,by simp,by simpa using i,by simp[l]⟩
  ·simp at i;subst i
   repeat' first|refine ae (fun _=> ?_) fun _=> ?_|refine aL ?_|refine aq.data (tK _) rfl ?_|refine aq.data (FX _ _ _ _ _) rfl ?_|simp only[j,hk,dH,Int.reduceLE,Int.reduceLT,Int.reduceGE,Int.reduceGT,Int.reduceEq,Int.reduceNe,Int.reduceBEq,Int.reduceBNe,decide_true,decide_false,room_le,wy,qg,aH,reduceCtorEq,reduceIte,Nat.reduceAdd,Nat.reduceMul,Nat.reduceEqDiff,Nat.reduceLT,Nat.reduceLeDiff,Nat.reduceSub,aA,aF,aE,aw]
   all_goals trace_state
set_option maxRecDepth 10000 in
theorem Jp(fr:Fr)(s:List aa):CI.sem fr s (.bld z64 [(0,1,(.c (.d (.sc (.int .u32 1116352408))))),(1,1,(.c (.d (.sc (.int .u32 1899447441))))),(2,1,(.c (.d (.sc (.int .u32 3049323471))))),(3,1,(.c (.d (.sc (.int .u32 3921009573))))),(4,1,(.c (.d (.sc (.int .u32 961987163))))),(5,1,(.c (.d (.sc (.int .u32 1508970993))))),(6,1,(.c (.d (.sc (.int .u32 2453635748))))),(7,1,(.c (.d (.sc (.int .u32 2870763221))))),(8,1,(.c (.d (.sc (.int .u32 3624381080))))),(9,1,(.c (.d (.sc (.int .u32 310598401))))),(10,1,(.c (.d (.sc (.int .u32 607225278))))),(11,1,(.c (.d (.sc (.int .u32 1426881987))))),(12,1,(.c (.d (.sc (.int .u32 1925078388))))),(13,1,(.c (.d (.sc (.int .u32 2162078206))))),(14,1,(.c (.d (.sc (.int .u32 2614888103))))),(15,1,(.c (.d (.sc (.int .u32 3248222580))))),(16,1,(.c (.d (.sc (.int .u32 3835390401))))),(17,1,(.c (.d (.sc (.int .u32 4022224774))))),(18,1,(.c (.d (.sc (.int .u32 264347078))))),(19,1,(.c (.d (.sc (.int .u32 604807628))))),(20,1,(.c (.d (.sc (.int .u32 770255983))))),(21,1,(.c (.d (.sc (.int .u32 1249150122))))),(22,1,(.c (.d (.sc (.int .u32 1555081692))))),(23,1,(.c (.d (.sc (.int .u32 1996064986))))),(24,1,(.c (.d (.sc (.int .u32 2554220882))))),(25,1,(.c (.d (.sc (.int .u32 2821834349))))),(26,1,(.c (.d (.sc (.int .u32 2952996808))))),(27,1,(.c (.d (.sc (.int .u32 3210313671))))),(28,1,(.c (.d (.sc (.int .u32 3336571891))))),(29,1,(.c (.d (.sc (.int .u32 3584528711))))),(30,1,(.c (.d (.sc (.int .u32 113926993))))),(31,1,(.c (.d (.sc (.int .u32 338241895))))),(32,1,(.c (.d (.sc (.int .u32 666307205))))),(33,1,(.c (.d (.sc (.int .u32 773529912))))),(34,1,(.c (.d (.sc (.int .u32 1294757372))))),(35,1,(.c (.d (.sc (.int .u32 1396182291))))),(36,1,(.c (.d (.sc (.int .u32 1695183700))))),(37,1,(.c (.d (.sc (.int .u32 1986661051))))),(38,1,(.c (.d (.sc (.int .u32 2177026350))))),(39,1,(.c (.d (.sc (.int .u32 2456956037))))),(40,1,(.c (.d (.sc (.int .u32 2730485921))))),(41,1,(.c (.d (.sc (.int .u32 2820302411))))),(42,1,(.c (.d (.sc (.int .u32 3259730800))))),(43,1,(.c (.d (.sc (.int .u32 3345764771))))),(44,1,(.c (.d (.sc (.int .u32 3516065817))))),(45,1,(.c (.d (.sc (.int .u32 3600352804))))),(46,1,(.c (.d (.sc (.int .u32 4094571909))))),(47,1,(.c (.d (.sc (.int .u32 275423344))))),(48,1,(.c (.d (.sc (.int .u32 430227734))))),(49,1,(.c (.d (.sc (.int .u32 506948616))))),(50,1,(.c (.d (.sc (.int .u32 659060556))))),(51,1,(.c (.d (.sc (.int .u32 883997877))))),(52,1,(.c (.d (.sc (.int .u32 958139571))))),(53,1,(.c (.d (.sc (.int .u32 1322822218))))),(54,1,(.c (.d (.sc (.int .u32 1537002063))))),(55,1,(.c (.d (.sc (.int .u32 1747873779))))),(56,1,(.c (.d (.sc (.int .u32 1955562222))))),(57,1,(.c (.d (.sc (.int .u32 2024104815))))),(58,1,(.c (.d (.sc (.int .u32 2227730452))))),(59,1,(.c (.d (.sc (.int .u32 2361852424))))),(60,1,(.c (.d (.sc (.int .u32 2428436474))))),(61,1,(.c (.d (.sc (.int .u32 2756734187))))),(62,1,(.c (.d (.sc (.int .u32 3204031479))))),(63,1,(.c (.d (.sc (.int .u32 3329325298)))))])=some (.d (.agg (bt .u32 fG)),s):=by rfl
theorem PH{vs:List AV}(h:vs.length=64):b8 z64 0 64 vs=some vs:=gN (by simp[z64,bt]) h
set_option maxRecDepth 10000 in
theorem ZR:aG Tryz.prog 228 [] (.agg (bt .u32 fG)):=by
 have b:fG.length=64:=by decide
 have a:(bt .u32 fG).take 64=bt .u32 fG:=dq (by rw[ed,b];decide);refine aM (F:=C1) XH (by simp[C1]) ?_;simp only[C1]
 repeat' first|refine ae (fun _=> ?_) fun _=> ?_|refine aL ?_|simp only[↓Jp,PH,aQ,ed,b,a,wy,qg,aH,reduceCtorEq,reduceIte,Nat.reduceAdd,Nat.reduceMul,Nat.reduceEqDiff,Nat.reduceLT,Nat.reduceLeDiff,Nat.reduceSub,aA,aF,aE,aw]
theorem L6: ∀{v:List Int},v.length=8→ ∃a b c d e f g i,v=[a,b,c,d,e,f,g,i]
 |[a,b,c,d,e,f,g,i],_=>⟨a,b,c,d,e,f,g,i,rfl⟩
theorem Hd: ∀(l:List (Int×Int)) (v:List Int),v.length=8→(rounds l v).length=8
 |[],v,h=>h
 |(k,w)::l,v,h=>by
  rw[rounds];refine Hd l _ ?_
  match v,h with
  |[a,b,c,d,e,f,g,i],_=>rfl
theorem wA(v:List Int): ∀(l:List Nat) (h:List Int),(nP v l h).length=h.length
 |[],h=>rfl
 |i::l,h=>by rw[nP,gD];exact(wA v l _).trans (by simp)
set_option maxRecDepth 20000 in
set_option maxHeartbeats 4000000 in
theorem ZU(h:List Int)(s:bh)(u:h.length=8)(O:s.size=64):aG Tryz.prog 171 [.agg (bt .u32 h),dS s] (.agg (bt .u32 (iu h s))):=by
 have H:=ZT s O;have q:(sched s).length=64:=by rw[sched,Hm,Hl];simp
 have p:fG.length=64:=by decide
 have E:(bt .u32 (sched s)).take 64=bt .u32 (sched s):=dq (by rw[ed,q];decide);have D:(bt .u32 fG).take 64=bt .u32 fG:=dq (by rw[ed,p];decide);have G:(bt .u32 h).take 8=bt .u32 h:=dq (by rw[ed,u];decide);refine aM (F:=C5) XL (by simp[C5]) ?_;simp only[C5]
 repeat' first|refine ae (fun _=> ?_) fun _=> ?_|refine aL ?_|refine aq.data (H) rfl ?_|refine aq.data (ZR) rfl ?_|simp only[z64,z8,lq (fN ..),aQ,ed,q,p,u,E,D,G,wy,qg,aH,reduceCtorEq,reduceIte,Nat.reduceAdd,Nat.reduceMul,Nat.reduceEqDiff,Nat.reduceLT,Nat.reduceLeDiff,Nat.reduceSub,aA,aF,aE,aw]
 clear H E D G;obtain⟨R,j⟩: ∃R,R=rounds (fG.zip (sched s)) h:=⟨_,rfl⟩
 have A:R.length=8:=by rw[j];exact Hd _ _ u
 have K:iu h s=nP R (List.range 8) h:=by rw[j];rfl
 rw[K];clear K
 refine aZ.overI (fG.zip (sched s)) (fun k (v:List Int)=>[(8,iN k)]) (fun k v=>[.cells ((bt .u32 h).map .d),.cells ((bt .u32 (List.replicate 8 0)).map .d),.cells ((bt .u32 (sched s)).map .d),.cells ((bt .u32 fG).map .d),.cells ((bt .u32 v).map .d)]) (fun r v=>rounds r v) R (fun k v=>v.length=8) h (by rw[we,q,p];decide) aB aB rfl j u (fun k v x hg hk t C m n=> ?_) (fun v t m n=> ?_)
 ·obtain⟨Q,S⟩:=x;obtain⟨I,J⟩:=yO hg;rw[we,q,p]at hk;have o:((k:Int)<64)=True:=by simp;omega
  rw[rounds]at m;dsimp only at I J;clear j A t q p hg;obtain⟨a,b,c,d,e,f,g,i,rfl⟩:=L6 n
  ·have z: ∀vs:List AV,vs.length=8→b8 ((bt .u32 [a,b,c,d,e,f,g,i]).map .d) 0 8 vs=some vs:=fun vs h=>lq (k:= .u32) (l:=[a,b,c,d,e,f,g,i]) rfl h
   repeat' first|refine ae (fun _=> ?_) fun _=> ?_|refine aL ?_|refine aq.data (pA _ 6 (by decide)) rfl ?_|refine aq.data (pA _ 11 (by decide)) rfl ?_|refine aq.data (pA _ 25 (by decide)) rfl ?_|refine aq.data (pA _ 2 (by decide)) rfl ?_|refine aq.data (pA _ 13 (by decide)) rfl ?_|refine aq.data (pA _ 22 (by decide)) rfl ?_|simp only[o,C,I,J,oy,Int.reduceToNat,z8,nj,z,aQ,ed,jh,fN,Nat.zero_lt_succ,Int.reduceLE,Int.reduceLT,Int.reduceGE,Int.reduceGT,Int.reduceEq,Int.reduceNe,Int.reduceBEq,Int.reduceBNe,decide_true,decide_false,wy,qg,aH,reduceCtorEq,reduceIte,Nat.reduceAdd,Nat.reduceMul,Nat.reduceEqDiff,Nat.reduceLT,Nat.reduceLeDiff,Nat.reduceSub,aA,aF,aE,aw]
   exact⟨Hc Q S [a,b,c,d,e,f,g,i],rfl,m,rfl⟩
 ·have P:(fG.zip (sched s)).length=64:=by rw[we,q,p];decide
  have B:R=v:=m;subst B
  repeat' first|refine ae (fun _=> ?_) fun _=> ?_|refine aL ?_|simp only[P,Int.reduceLE,Int.reduceLT,Int.reduceGE,Int.reduceGT,Int.reduceEq,Int.reduceNe,Int.reduceBEq,Int.reduceBNe,decide_true,decide_false,wy,qg,aH,reduceCtorEq,reduceIte,Nat.reduceAdd,Nat.reduceMul,Nat.reduceEqDiff,Nat.reduceLT,Nat.reduceLeDiff,Nat.reduceSub,aA,aF,aE,aw]
  refine aZ.overI (List.range 8) (fun k (v:List Int)=>[(13,iN k)]) (fun k v=>[.cells ((bt .u32 v).map .d),.cells ((bt .u32 (List.replicate 8 0)).map .d),.cells ((bt .u32 (sched s)).map .d),.cells ((bt .u32 fG).map .d),.cells ((bt .u32 R).map .d)]) (fun r v=>nP R r v) (nP R (List.range 8) h) (fun k v=>v.length=8) h (by decide) aB aB rfl rfl u (fun k v x hg hk t C m n=> ?_) (fun v t m n=> ?_)
  ·simp only[ew]at hk;obtain rfl:k=x:=by rw[qA a8]at hg;simpa using hg
   have o:((k:Int)<8)=True:=by simp;omega
   have M:=fX (w:=v) (i:=k) a8;have N:=fX (w:=R) (i:=k) a8;have y:=fun x=>nj (k:= .u32) (l:=v) (i:=k) a8 x;clear t
   repeat' first|refine ae (fun _=> ?_) fun _=> ?_|refine aL ?_|simp only[o,C,M,N,oy,y,Int.reduceLE,Int.reduceLT,Int.reduceGE,Int.reduceGT,Int.reduceEq,Int.reduceNe,Int.reduceBEq,Int.reduceBNe,decide_true,decide_false,wy,qg,aH,reduceCtorEq,reduceIte,Nat.reduceAdd,Nat.reduceMul,Nat.reduceEqDiff,Nat.reduceLT,Nat.reduceLeDiff,Nat.reduceSub,aA,aF,aE,aw]
   exact⟨v.set k (aW (at_ v k) (at_ R k)),rfl,m,by simp[n]⟩
  ·have B:nP R (List.range 8) h=v:=m;have L:(bt .u32 v).take 8=bt .u32 v:=dq (by rw[ed,n];decide)
   repeat' first|refine ae (fun _=> ?_) fun _=> ?_|refine aL ?_|simp only[Int.reduceLE,Int.reduceLT,Int.reduceGE,Int.reduceGT,Int.reduceEq,Int.reduceNe,Int.reduceBEq,Int.reduceBNe,decide_true,decide_false,ew,L,lq (fN ..),aQ,ed,n,wy,qg,aH,reduceCtorEq,reduceIte,Nat.reduceAdd,Nat.reduceMul,Nat.reduceEqDiff,Nat.reduceLT,Nat.reduceLeDiff,Nat.reduceSub,aA,aF,aE,aw]
   rw[B]
end Go.Proofs.Q
