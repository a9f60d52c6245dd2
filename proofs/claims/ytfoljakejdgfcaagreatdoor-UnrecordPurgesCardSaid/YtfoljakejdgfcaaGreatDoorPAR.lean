/- Part of a proof. -/
import Derived.Test.YtfoljakejdgfcaaGreatDoorPAN
import Derived.Test.YtfoljakejdgfcaaGreatDoorPAQ
set_option linter.unusedVariables false
set_option linter.unusedSimpArgs false
namespace Go.Proofs.Q
open Go Go.Bb Go.RowKit Go.Proofs.Lg
open Go.Ab (D RD)
theorem u0(s:aZ):aE Tryz.prog 170 [dS s] (.agg (ae (dp s))):=by
 refine aI (F:=An) T5 (by simp[An]) ?_;simp only[An];refine aw @dE trivial ?_
 all_goals rfl
theorem so(l:List Sx):aE Tryz.prog 169 [.sl 3 (l.map ae)] (.agg (ae (cp l))):=by
 refine aI (F:=Ax) Tc (by simp[Ax]) ?_;simp only[Ax];refine aw @dE trivial ?_
 all_goals rfl
theorem DF(a b:Sx):aE Tryz.prog 169 [.sl 3 [ae a,ae b]] (.agg (ae (cp [a,b]))):=so [a,b]
theorem Ia(a b c d:Sx):aE Tryz.prog 169 [.sl 3 [ae a,ae b,ae c,ae d]] (.agg (ae (cp [a,b,c,d]))):=so [a,b,c,d]
theorem DG(a b c d e:Sx):aE Tryz.prog 169 [.sl 3 [ae a,ae b,ae c,ae d,ae e]] (.agg (ae (cp [a,b,c,d,e]))):=so [a,b,c,d,e]
theorem Q7(a b c d e f:Sx):aE Tryz.prog 169 [.sl 3 [ae a,ae b,ae c,ae d,ae e,ae f]] (.agg (ae (cp [a,b,c,d,e,f]))):=so [a,b,c,d,e,f]
theorem oU(n:Int):aE Tryz.prog 171 [dI n] (.agg (ae (cd n))):=by
 refine aI (F:=Az) Te (by simp[Az]) ?_;simp only[Az];exact bx @dE @UO
theorem D1{α:Type}: ∀(n:Nat) (l:List α),l.length=n→chunk 1 n l=l.map fun x=>[x]
 |0,[],_=>rfl
 |n+1,x::l,h=>by
  show[x]::chunk 1 n l=_;rw[D1 n l (by simpa using h)];rfl
theorem CP: ∀(l:List Int),Bytes l→gl ((l.map fun b=>D.sc (.int .u8 b)).map .d)=some (l.map fun b=>UInt8.ofNat b.toNat)
 |[],_=>rfl
 |b::l,h=>by
  have a:=h b (by simp);have c:=CP l fun x e=>h x (jS _ e);simp only[bO,gl,pL,a,c,and_self,if_true,dF,eY]
theorem C2:((0:Int)<32∧(0:Int)≤0∧(0:Int)≤32∧(32:Int)≤32)=True:=by simp
theorem Le(d:Dg):chunk 1 (Int.toNat 32-Int.toNat 0) (List.take (Int.toNat 32-Int.toNat 0) (List.drop (Int.toNat 0) (aq d)))=(aq d).map fun x=>[x]:=by
 show chunk 1 32 ((aq d).take 32)=_;rw[qu,D1 32 _ (bc d)]
theorem G4(d:Dg):gl (List.map AV.d (List.map (fun x=>[x]) (aq d)).flatten)=some (d.l.map fun b=>UInt8.ofNat b.toNat):=by
 have h:((aq d).map fun x=>[x]).flatten=aq d:=by
  induction aq d with
  |nil=>rfl
  |cons x l a=>simp[a]
 rw[h];unfold aq;exact CP d.l d.by_
theorem JY(d:Dg):aE Tryz.prog 227 [.agg (aq d)] (dS (xP d)):=by
 refine aI (F:=zQ) SE (by simp[zQ]) ?_;simp only[zQ]
 repeat' first|refine ak (fun _=> ?_) fun _=> ?_|refine aD ?_|simp only[C2,Le,G4,wy,qg,aC,reduceCtorEq,reduceIte,Nat.reduceAdd,Nat.reduceMul,Nat.reduceEqDiff,Nat.reduceLT,Nat.reduceLeDiff,Nat.reduceSub,ax,aB,ay,au]
 all_goals rfl
theorem K9(d:Dg):aE Tryz.prog 166 [.agg (aq d)] (.agg (ae (fO d))):=by
 refine aI (F:=Aq) T7 (by simp[Aq]) ?_;simp only[Aq]
 repeat' first|refine ak (fun _=> ?_) fun _=> ?_|refine bb @dE (ga @jH (ga @u0 @JY)) ?_|exact ba @dE (ga @jH (ga @u0 @JY))|fail
 all_goals(simp_all[fO,bS];try exact bQ)
theorem u6(x:ar):aE Tryz.prog 228 [.agg (ab x)] (.agg (ae (bD x))):=by
 refine aI (F:=AD) Th (by simp[AD]) ?_;simp only[AD];refine aw @dE (ga @K9 (ga @oU @DF)) ?_
 all_goals(simp_all[bD,bS];try exact bQ)
theorem Vc(l:List ar)(h:l.length≤1000000000):aE Tryz.prog 229 [.sl 33 (l.map ab)] (.agg (ae (eF l))):=by
 refine aI (F:=AB) Tg (by simp[AB]) ?_;simp only[AB];refine aw @dE trivial ?_;refine aX.overI l (fun k (b:List Sx)=>[(4,iN k),(3,.tsl 1 3 (b.map ae))]) (fun k b=>[.cells ek,.row 199 3 b.length]) (fun r b=>b++r.map bD) (l.map bD) (fun k b=>b.length=k) [] a8 aA aA rfl rfl rfl (fun k b x hg g c f a d=> ?_) (fun b c a d=> ?_)
 ·have e:br (b.length+1) 48=true:=by simp only[br,decide_eq_true_eq];omega
  refine aw (ga @c (ga @f (ga @hg @e))) @u6 ?_;exact⟨b++[bD x],by simp,by simp,by simpa using a,by simp[d]⟩
 ·refine aw (ga @c @dE) @so ?_;simp at a;rw[←a];rfl
set_option maxHeartbeats 4000000 in
theorem V5(c:af)(g:1≤c.kind)(h:c.kind≤7)(f:c.over.length≤1000000000)(i:c.lines.length≤1000000000):aE Tryz.prog 167 [.agg (aQ c)] (.agg (ae (bW c))):=by
 have e:=Vc c.over f;obtain a|a|a|a|a|a|a:c.kind=1∨c.kind=2∨c.kind=3∨c.kind=4∨c.kind=6∨c.kind=7∨c.kind=5:=by omega
 ·have d:bW c=cp [cd 1,cd c.type]:=by simp[bW,a]
  rw[d];clear d g h f i;refine aI (F:=gn) sg (by simp[gn]) ?_;simp only[gn]
  repeat' first|refine ak (fun _=> ?_) fun _=> ?_|refine aD ?_|refine aj.data (oU _) rfl ?_|refine aj.data (DF _ _) rfl ?_|simp only[a,dE,Int.reduceLE,Int.reduceLT,Int.reduceGE,Int.reduceGT,Int.reduceEq,Int.reduceNe,Int.reduceBEq,Int.reduceBNe,decide_true,decide_false,room_le,wy,qg,aC,reduceCtorEq,reduceIte,Nat.reduceAdd,Nat.reduceMul,Nat.reduceEqDiff,Nat.reduceLT,Nat.reduceLeDiff,Nat.reduceSub,ax,aB,ay,au]
 ·have d:bW c=cp [cd 2,bD c.file,bD c.parent,dp c.name,eF c.over]:=by simp[bW,a]
  rw[d];clear d g h f i;refine aI (F:=gn) sg (by simp[gn]) ?_;simp only[gn]
  repeat' first|refine ak (fun _=> ?_) fun _=> ?_|refine aD ?_|refine aj.data (oU _) rfl ?_|refine aj.data (u6 _) rfl ?_|refine aj.data (u0 _) rfl ?_|refine aj.data (e) rfl ?_|refine aj.data (DG _ _ _ _ _) rfl ?_|simp only[a,dE,Int.reduceLE,Int.reduceLT,Int.reduceGE,Int.reduceGT,Int.reduceEq,Int.reduceNe,Int.reduceBEq,Int.reduceBNe,decide_true,decide_false,room_le,wy,qg,aC,reduceCtorEq,reduceIte,Nat.reduceAdd,Nat.reduceMul,Nat.reduceEqDiff,Nat.reduceLT,Nat.reduceLeDiff,Nat.reduceSub,ax,aB,ay,au]
 ·have d:bW c=cp [cd 3,bD c.file,cd c.mode,eF c.over]:=by simp[bW,a]
  rw[d];clear d g h f i;refine aI (F:=gn) sg (by simp[gn]) ?_;simp only[gn]
  repeat' first|refine ak (fun _=> ?_) fun _=> ?_|refine aD ?_|refine aj.data (oU _) rfl ?_|refine aj.data (u6 _) rfl ?_|refine aj.data (e) rfl ?_|refine aj.data (Ia _ _ _ _) rfl ?_|simp only[a,dE,Int.reduceLE,Int.reduceLT,Int.reduceGE,Int.reduceGT,Int.reduceEq,Int.reduceNe,Int.reduceBEq,Int.reduceBNe,decide_true,decide_false,room_le,wy,qg,aC,reduceCtorEq,reduceIte,Nat.reduceAdd,Nat.reduceMul,Nat.reduceEqDiff,Nat.reduceLT,Nat.reduceLeDiff,Nat.reduceSub,ax,aB,ay,au]
 ·have d:bW c=cp [cd 4,bD c.file,dp c.data,eF c.over]:=by simp[bW,a]
  rw[d];clear d g h f i;refine aI (F:=gn) sg (by simp[gn]) ?_;simp only[gn]
  repeat' first|refine ak (fun _=> ?_) fun _=> ?_|refine aD ?_|refine aj.data (oU _) rfl ?_|refine aj.data (u6 _) rfl ?_|refine aj.data (u0 _) rfl ?_|refine aj.data (e) rfl ?_|refine aj.data (Ia _ _ _ _) rfl ?_|simp only[a,dE,Int.reduceLE,Int.reduceLT,Int.reduceGE,Int.reduceGT,Int.reduceEq,Int.reduceNe,Int.reduceBEq,Int.reduceBNe,decide_true,decide_false,room_le,wy,qg,aC,reduceCtorEq,reduceIte,Nat.reduceAdd,Nat.reduceMul,Nat.reduceEqDiff,Nat.reduceLT,Nat.reduceLeDiff,Nat.reduceSub,ax,aB,ay,au]
 ·have d:bW c=cp [cd 6,bD c.file,bD c.after,bD c.before,eF c.over]:=by simp[bW,a]
  rw[d];clear d g h f i;refine aI (F:=gn) sg (by simp[gn]) ?_;simp only[gn]
  repeat' first|refine ak (fun _=> ?_) fun _=> ?_|refine aD ?_|refine aj.data (oU _) rfl ?_|refine aj.data (u6 _) rfl ?_|refine aj.data (e) rfl ?_|refine aj.data (DG _ _ _ _ _) rfl ?_|simp only[a,dE,Int.reduceLE,Int.reduceLT,Int.reduceGE,Int.reduceGT,Int.reduceEq,Int.reduceNe,Int.reduceBEq,Int.reduceBNe,decide_true,decide_false,room_le,wy,qg,aC,reduceCtorEq,reduceIte,Nat.reduceAdd,Nat.reduceMul,Nat.reduceEqDiff,Nat.reduceLT,Nat.reduceLeDiff,Nat.reduceSub,ax,aB,ay,au]
 ·have d:bW c=cp [cd 7,eF c.over]:=by simp[bW,a]
  rw[d];clear d g h f i;refine aI (F:=gn) sg (by simp[gn]) ?_;simp only[gn]
  repeat' first|refine ak (fun _=> ?_) fun _=> ?_|refine aD ?_|refine aj.data (oU _) rfl ?_|refine aj.data (e) rfl ?_|refine aj.data (DF _ _) rfl ?_|simp only[a,dE,Int.reduceLE,Int.reduceLT,Int.reduceGE,Int.reduceGT,Int.reduceEq,Int.reduceNe,Int.reduceBEq,Int.reduceBNe,decide_true,decide_false,room_le,wy,qg,aC,reduceCtorEq,reduceIte,Nat.reduceAdd,Nat.reduceMul,Nat.reduceEqDiff,Nat.reduceLT,Nat.reduceLeDiff,Nat.reduceSub,ax,aB,ay,au]
 ·have d:bW c=cp [cd 5,bD c.file,bD c.after,bD c.before,cp (c.lines.map dp)]:=by simp[bW,a]
  rw[d];clear d g h f e;refine aI (F:=gn) sg (by simp[gn]) ?_;simp only[gn]
  repeat' first|refine ak (fun _=> ?_) fun _=> ?_|refine aD ?_|refine aj.data (oU _) rfl ?_|refine aj.data (u6 _) rfl ?_|simp only[a,dE,Int.reduceLE,Int.reduceLT,Int.reduceGE,Int.reduceGT,Int.reduceEq,Int.reduceNe,Int.reduceBEq,Int.reduceBNe,decide_true,decide_false,room_le,wy,qg,aC,reduceCtorEq,reduceIte,Nat.reduceAdd,Nat.reduceMul,Nat.reduceEqDiff,Nat.reduceLT,Nat.reduceLeDiff,Nat.reduceSub,ax,aB,ay,au]
  refine aX.overI c.lines (fun k (b:List Sx)=>[(5,iN k),(4,.tsl 2 3 (b.map ae))]) (fun k b=>[.cells ek,.row 199 3 4,.row 199 3 b.length]) (fun r b=>b++r.map dp) (c.lines.map dp) (fun k b=>b.length=k) [] a8 aA aA rfl rfl rfl (fun k b x hg n l p j m=> ?_) (fun b l j m=> ?_)
  ·have o:br (b.length+1) 48=true:=by simp only[br,decide_eq_true_eq];omega
   repeat' first|refine ak (fun _=> ?_) fun _=> ?_|refine aD ?_|refine aj.data (u0 _) rfl ?_|simp only[l,p,hg,o,eG,wy,qg,aC,reduceCtorEq,reduceIte,Nat.reduceAdd,Nat.reduceMul,Nat.reduceEqDiff,Nat.reduceLT,Nat.reduceLeDiff,Nat.reduceSub,ax,aB,ay,au]
   exact⟨b++[dp x],by simp,by simp,by simpa using j,by simp[m]⟩
  ·simp at j;subst j
   repeat' first|refine ak (fun _=> ?_) fun _=> ?_|refine aD ?_|refine aj.data (so _) rfl ?_|refine aj.data (DG _ _ _ _ _) rfl ?_|simp only[l,a,dE,Int.reduceLE,Int.reduceLT,Int.reduceGE,Int.reduceGT,Int.reduceEq,Int.reduceNe,Int.reduceBEq,Int.reduceBNe,decide_true,decide_false,room_le,wy,qg,aC,reduceCtorEq,reduceIte,Nat.reduceAdd,Nat.reduceMul,Nat.reduceEqDiff,Nat.reduceLT,Nat.reduceLeDiff,Nat.reduceSub,ax,aB,ay,au]
end Go.Proofs.Q
namespace Go.Proofs.Q
open Go Go.Bb Go.Proofs.Lg
open Go.Ab (D)
abbrev gD:=IntKind.u32
def jX(a b:Int):Int:=gD.wrap (BitVec.ofInt gD.bits a|||BitVec.ofInt gD.bits b).toNat
def ij(a b:Int):Int:=gD.wrap (BitVec.ofInt gD.bits a^^^BitVec.ofInt gD.bits b).toNat
def uR(a b:Int):Int:=gD.wrap (BitVec.ofInt gD.bits a&&&BitVec.ofInt gD.bits b).toNat
def Nd(a:Int):Int:=gD.wrap (BitVec.ofInt gD.bits (if gD.signed then-1 else gD.max)^^^BitVec.ofInt gD.bits a).toNat
def aW(a b:Int):Int:=gD.wrap (a+b)
def shr(a:Int)(n:Nat):Int:=a.fdiv (2^min n gD.bits)
def shl(a:Int)(n:Nat):Int:=gD.wrap (a*2^min n gD.bits)
def gq(x:Int)(n:Nat):Int:=jX (shr x n) (shl x (32-n))
def mM:Nat→aZ
 |0=>⟨#[]⟩
 |n+1=>mM n++str [0]
def qZ(b:Int):aZ:=str [UInt8.ofNat b.toNat]
def fk:List Int:=[
 0x428a2f98,0x71374491,0xb5c0fbcf,0xe9b5dba5,0x3956c25b,0x59f111f1,0x923f82a4,0xab1c5ed5,
 0xd807aa98,0x12835b01,0x243185be,0x550c7dc3,0x72be5d74,0x80deb1fe,0x9bdc06a7,0xc19bf174,
 0xe49b69c1,0xefbe4786,0x0fc19dc6,0x240ca1cc,0x2de92c6f,0x4a7484aa,0x5cb0a9dc,0x76f988da,
 0x983e5152,0xa831c66d,0xb00327c8,0xbf597fc7,0xc6e00bf3,0xd5a79147,0x06ca6351,0x14292967,
 0x27b70a85,0x2e1b2138,0x4d2c6dfc,0x53380d13,0x650a7354,0x766a0abb,0x81c2c92e,0x92722c85,
 0xa2bfe8a1,0xa81a664b,0xc24b8b70,0xc76c51a3,0xd192e819,0xd6990624,0xf40e3585,0x106aa070,
 0x19a4c116,0x1e376c08,0x2748774c,0x34b0bcb5,0x391c0cb3,0x4ed8aa4a,0x5b9cca4f,0x682e6ff3,
 0x748f82ee,0x78a5636f,0x84c87814,0x8cc70208,0x90befffa,0xa4506ceb,0xbef9a3f7,0xc67178f2]
def iE:List Int:=[0x6a09e667,0xbb67ae85,0x3c6ef372,0xa54ff53a,0x510e527f,0x9b05688c,0x1f83d9ab,0x5be0cd19]
def mW(s:aZ)(i:Nat):Int:=match s.data.toList[i]? with
 |some b=>b.toNat
 |none=>0
def qI(s:aZ)(t:Nat):Int:=jX (jX (jX (shl (mW s (4*t)) 24) (shl (mW s (4*t+1)) 16)) (shl (mW s (4*t+2)) 8)) (mW s (4*t+3))
def at_(w:List Int)(i:Nat):Int:=(w[i]?).getD 0
def pd(w:List Int)(t:Nat):Int:=
 aW (aW (aW (ij (ij (gq (at_ w (t-2)) 17) (gq (at_ w (t-2)) 19)) (shr (at_ w (t-2)) 10)) (at_ w (t-7))) (ij (ij (gq (at_ w (t-15)) 7) (gq (at_ w (t-15)) 18)) (shr (at_ w (t-15)) 3))) (at_ w (t-16))
def sA(s:aZ)(l:List Nat)(w:List Int):List Int:=l.foldl (fun w t=>w.set t (qI s t)) w
def sB(l:List Nat)(w:List Int):List Int:=l.foldl (fun w t=>w.set t (pd w t)) w
def sched(s:aZ):List Int:=sB (List.range' 16 48) (sA s (List.range' 0 16) (List.replicate 64 0))
def EV(k w:Int):List Int→List Int
 |[a,b,c,d,e,f,g,h]=>
  let i:=aW (aW (aW (aW h (ij (ij (gq e 6) (gq e 11)) (gq e 25))) (ij (uR e f) (uR (Nd e) g))) k) w;let t2:=aW (ij (ij (gq a 2) (gq a 13)) (gq a 22)) (ij (ij (uR a b) (uR a c)) (uR b c))
  [aW i t2,a,b,c,aW d i,e,f,g]
 |v=>v
def rounds:List (Int×Int)→List Int→List Int
 |[],v=>v
 |(k,w)::l,v=>rounds l (EV k w v)
def mh(v:List Int)(l:List Nat)(h:List Int):List Int:=l.foldl (fun h i=>h.set i (aW (at_ h i) (at_ v i))) h
def gQ(h:List Int)(s:aZ):List Int:=mh (rounds (fk.zip (sched s)) h) (List.range 8) h
def Nr(s:aZ):Int:=IntKind.u64.wrap (IntKind.u64.wrap s.size*8)
def kX(s:aZ)(i:Nat):Int:=IntKind.u8.wrap ((Nr s).fdiv (2^min (8*i) 64))
def jh(s:aZ):aZ:=[7,6,5,4,3,2,1,0].foldl (fun a i=>a++qZ (kX s i)) (s++str [128]++mM ((120-(s.size+1) % 64) % 64))
def lP(s:aZ):List Int:=(List.range ((jh s).size/64)).foldl (fun h k=>gQ h ((jh s).extract (64*k) (64*k+64))) iE
def nb(h:List Int)(i:Nat):Int:=IntKind.u8.wrap ((at_ h (i/4)).fdiv (2^min (24-8*(i % 4)) 32))
theorem wD(n:Int):0≤IntKind.u8.wrap n∧IntKind.u8.wrap n<256:=by
 simp only[IntKind.wrap,IntKind.bits,IntKind.signed];have a:0≤n % 2^8:=Int.emod_nonneg _ (by decide);have b:n % 2^8<2^8:=Int.emod_lt_of_pos _ (by decide);simp;omega
theorem L8{f:Nat→Int}(c: ∀i,0≤f i∧f i<256): ∀(l:List Nat) (b:List Int),Bytes b→Bytes (l.foldl (fun b i=>b.set i (f i)) b)∧(l.foldl (fun b i=>b.set i (f i)) b).length=b.length
 |[],b,h=>⟨h,rfl⟩
 |i::l,b,h=>by
  have d:Bytes (b.set i (f i)):=fun x a=>by
   rcases List.mem_or_eq_of_mem_set a with a|rfl
   ·exact h x a
   ·exact c i
  obtain⟨e,g⟩:=L8 c l (b.set i (f i)) d;exact⟨e,by rw[gz,g,iB]⟩
def lA(h:List Int):List Int:=(List.range 32).foldl (fun b i=>b.set i (nb h i)) (List.replicate 32 0)
theorem H8(h:List Int):Bytes (lA h)∧(lA h).length=32:=by
 have h:=L8 (f:=nb h) (fun i=>wD _) (List.range 32) (List.replicate 32 0) (by unfold Bytes;decide);exact⟨h.1,h.2.trans (by simp)⟩
def bE(s:aZ):Dg:=⟨lA (lP s),(H8 _).2,(H8 _).1⟩
theorem Y9(s:aZ):(bE s).l=lA (lP s):=by rw[bE]
end Go.Proofs.Q
namespace Go.Proofs.Q
open Go Go.Bb Go.RowKit Go.Proofs.Lg
open Go.Ab (D RD)
abbrev vT:AV:= .tup []
theorem Ee(a b v:AV):aV [a,b] 0 1 [v]=some [v,b]:=rfl
theorem bP{s:List aa}{id:Nat}{o:aa}(h:s[id]?=some o)(J:List aa):(s++J)[id]?=some o:=by
 rw[eQ (aR.1 h).1];exact h
set_option maxRecDepth 20000 in
theorem GU: ∀(d:Nat) (x:Sx) (c n id:Nat) (s:List aa),eW d x→n+bG d x≤20000→c+d≤13→s[id]?=some (.cells [iN n,.d (dB false)])→
  aT Tryz.prog 271 [.ptr id 0,.d (.agg (ae x)),.d (dI c)] s fun D z=>D=vT∧z[id]?=some (.cells [iN (n+bG d x),.d (dB false)])
 |0,_,_,_,_,_,h,_,_,_=>h.elim
 |d+1,.mk b a l,c,n,id,s,hg0,hn,hlev,hs=>by
  have G:=qh hg0;have B:=GU d;have w:=(aR.1 hs).1;have f: ∀X:aa,(s.set id X)[id]?=some X:=fun X=>by rw[ey];simp[w]
  have A:IntKind.i64.wrap ((n:Int)+1)=((n+1:Nat):Int):=lT a8 a8;have q:decide (((n+1:Nat):Int)>20000)=false:=by simp;omega
  have t:decide ((c:Int)>12)=false:=by simp;omega
  refine aT.of (F:=yL) RE (by simp[yL]) ?_;simp only[yL];rw[jj]
  repeat' first|refine ak (fun _=> ?_) fun _=> ?_|refine bb (ga @hs (ga @f (ga @Ee (ga @A (ga @q (ga @t @wj)))))) trivial ?_|exact ba (ga @hs (ga @f (ga @Ee (ga @A (ga @q (ga @t @wj)))))) trivial|fail
  ·rename_i hb;subst hb;have u:bG (d+1) (.mk true a l)=1+(l.map (bG d)).sum:=rfl;have j:l.length≤(l.map (bG d)).sum:=sG _ fun x y=>by
    obtain⟨k,C⟩:=jR y;exact qh (hg0.mem C)
   rw[u]at hn;refine aX.overI l (fun k (b:Nat×List aa)=>[(33,iN k)]) (fun _ b=>b.2) (fun r b=>b.1+(r.map (bG d)).sum) (n+1+(l.map (bG d)).sum) (fun _ b=>b.2[id]?=some (.cells [iN b.1,.d (dB false)])) (n+1,s.set id (.cells [iN (n+1),.d (dB false)])) a8 aA aA rfl rfl (f _) (fun k b x hg C v H p g=> ?_) (fun b v p g=> ?_)
   ·obtain⟨m,b⟩:=b;dsimp only at p g;have y:=hg0.mem hg;have o:((x::l.drop (k+1)).map (bG d)).sum=bG d x+((l.drop (k+1)).map (bG d)).sum:=by simp
    rw[o]at p;have I:IntKind.i64.wrap ((c:Int)+1)=((c+1:Nat):Int):=lT a8 a8;have i: ∀J,(b++J)[id]?=_:=bP g;have hc:=fun J=>B x (c+1) m id (b++J) y a8 a8 (i J);clear B u j G q t f A
    repeat' first|refine ak (fun _=> ?_) fun _=> ?_|refine aD ?_|(refine aj.fn ((hc _).mono ?_);rintro _ z ⟨rfl,E⟩)|simp only[v,H,hg,I,g,i,Ee,dE,ch,aL,wj,wy,qg,aC,reduceCtorEq,reduceIte,Nat.reduceAdd,Nat.reduceMul,Nat.reduceEqDiff,Nat.reduceLT,Nat.reduceLeDiff,Nat.reduceSub,ax,aB,ay,au]
    exact⟨(m+bG d x,z),rfl,by dsimp only;omega,E⟩
   ·refine aw @v trivial ?_;simp at p;have e:n+bG (d+1) (.mk true a l)=b.1:=by rw[u];omega
    rw[e];exact g
  ·rename_i hb;subst hb;rfl
set_option maxRecDepth 20000 in
theorem GX: ∀(d:Nat) (x:Sx),eW d x→bG d x≤1000000000→aE Tryz.prog 272 [.agg (ae x)] (dI 0)
 |0,_,h,_=>h.elim
 |d+1,.mk b a l,hg0,hn=>by
  have g:=GX d;rcases id hg0 with⟨rfl,rfl,ha⟩|⟨rfl,rfl,hl⟩
  ·have m:decide ((a.size:Int)>65536)=false:=by simp;omega
   refine aI (F:=rA) IS (by simp[rA]) ?_;simp only[rA];rw[jj]
   repeat' first|refine ak (fun _=> ?_) fun _=> ?_|refine aD ?_|simp only[m,gt_iff_lt,kI,decide_false,wy,qg,aC,reduceCtorEq,reduceIte,Nat.reduceAdd,Nat.reduceMul,Nat.reduceEqDiff,Nat.reduceLT,Nat.reduceLeDiff,Nat.reduceSub,ax,aB,ay,au]
   refine aX.overI ([]:List Sx) (fun k (b:Unit)=>[(33,iN k)]) (fun _ _=>[]) (fun _ _=>()) () (fun _ _=>True) () (by simp) aA aA rfl rfl trivial (fun k b x hg p c j f e=>by cases hg) (fun b c f e=> ?_);exact bx trivial trivial
  ·have n:bG (d+1) (.mk true ⟨#[]⟩ l)=1+(l.map (bG d)).sum:=rfl;have i:l.length≤(l.map (bG d)).sum:=sG _ fun x q=>qh (hl x q);rw[n]at hn;refine aI (F:=rA) IS (by simp[rA]) ?_;simp only[rA];rw[jj];have o:decide (((⟨#[]⟩:ByteArray).size:Int)>65536)=false:=rfl;refine aw (ga @jY @o) trivial ?_
   refine aX.overI l (fun k (b:List aa)=>[(33,iN k)]) (fun _ b=>b) (fun _ _=>()) () (fun _ _=>True) ([]:List aa) a8 aA aA rfl rfl trivial (fun k b x hg p c j f e=> ?_) (fun b c f e=> ?_)
   ·have hc:=g x (hl x (bT hg)) (by have:=wB (bG d) hg;omega);clear g;refine aw (ga @c (ga @j (ga @hg (ga @dE (ga @ch @wj))))) @hc ?_;exact⟨_,rfl⟩
   ·repeat' first|refine ak (fun _=> ?_) fun _=> ?_|refine bb @c trivial ?_|exact ba @c trivial|fail
theorem Oe{x:Sx}(hg:eW 6 x)(e:bG 6 x≤20000):aE Tryz.prog 247 [.agg (ae x)] (dI 0):=by
 have a:=GX 6 x hg a8;have b:=GU 6 x 1 0 0 [.cells [iN 0,.d (dB false)]] hg a8 a8 rfl;refine aI (F:=yJ) RB (by simp[yJ]) ?_;simp only[yJ]
 repeat' first|refine ak (fun _=> ?_) fun _=> ?_|refine aD ?_|refine aj.data (a) rfl ?_|(refine aj.fn (b.mono ?_);rintro _ f ⟨rfl,c⟩)|simp only[wj,wy,qg,aC,reduceCtorEq,reduceIte,Nat.reduceAdd,Nat.reduceMul,Nat.reduceEqDiff,Nat.reduceLT,Nat.reduceLeDiff,Nat.reduceSub,ax,aB,ay,au]
 exact bx (ga @c @wj) @a
end Go.Proofs.Q
