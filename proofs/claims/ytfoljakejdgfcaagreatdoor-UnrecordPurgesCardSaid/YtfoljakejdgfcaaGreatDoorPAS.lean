/- Part of a proof. -/
import Derived.Test.YtfoljakejdgfcaaGreatDoorPAR
import Derived.Test.YtfoljakejdgfcaaGreatDoorPAK
set_option linter.unusedVariables false
set_option linter.unusedSimpArgs false
namespace Go.Proofs.Q
open Go Go.Bb Go.RowKit Go.Proofs.Lg
open Go.Ab (D RD)
theorem Ci{n:Int}{m:Nat}(h:n=m)(hm:m<18446744073709551616):Go.IntKind.u64.wrap n=(m:Int):=by
 subst h;simp only[Go.IntKind.wrap,Go.IntKind.bits,Go.IntKind.signed];have:((m:Int) % 2^64)=m:=by omega
 simp only[this];simp
theorem mn3{a b:ByteArray}(h:a.size+b.size≤9223372036854775807):(((a.size+b.size:Nat):Int)≤9223372036854775807)=True:=by simp;omega
theorem nC(x:Int)(n:Nat)(b:n≤32):aE Tryz.prog 175 [.sc (.int .u32 x),.sc (.int .u64 n)] (.sc (.int .u32 (gq x n))):=by
 have a:IntKind.u64.wrap (32-(n:Int))=((32-n:Nat):Int):=Ci a8 a8;refine aI (F:=zX) SJ (by simp[zX]) ?_;simp only[zX];refine aw @a trivial ?_
 all_goals rfl
theorem wQ: ∀n,(mM n).size=n
 |0=>rfl
 |n+1=>by rw[mM,jO,wQ n];rfl
theorem UU(n:Nat)(h:n≤1000000):aE Tryz.prog 172 [dI n] (dS (mM n)):=by
 refine aI (F:=A0) SN (by simp[A0]) ?_;simp only[A0];refine aw trivial trivial ?_
 refine aX.over (List.range n) (fun k (_:Unit)=>[(4,iN k),(3,.d (.sc (.string (mM k))))]) (fun _ _=>[]) (fun _ _=>()) () () (by simp;omega) aA (by simp only[wy,qg,aC,reduceCtorEq,reduceIte,Nat.reduceAdd,Nat.reduceMul,Nat.reduceEqDiff,Nat.reduceLT,Nat.reduceLeDiff,Nat.reduceSub,ax,aB,ay,au];rfl) rfl rfl (fun k _ x hg f c g e=> ?_) (fun _ c e=> ?_)
 ·simp only[dX]at c f;have hc:=mn3 (a:=mM k) (b:=⟨#[0]⟩) (by rw[wQ];show k+1≤_;omega);refine aw (ga @c (ga @g @hc)) trivial ?_;exact⟨(),rfl⟩
 ·simp only[dX]at c;exact bx @c trivial
theorem CM(n:Int):(qZ n).size=1:=rfl
theorem Nc{n:Int}(h:0≤n∧n<256):gl [.d (.sc (.int .u8 n))]=some [UInt8.ofNat n.toNat]:=by
 simp only[gl,pL,h,and_self,if_true,dF,eY]
theorem HE(s:aZ): ∀(l:List Nat) (b:aZ),(l.foldl (fun a i=>a++qZ (kX s i)) b).size=b.size+l.length
 |[],b=>rfl
 |i::l,b=>by rw[gz,HE s l,jO,CM,aU];omega
theorem JE(s:aZ):(jh s).size=s.size+1+(120-(s.size+1) % 64) % 64+8:=by
 unfold jh;rw[HE,jO,jO,wQ];rfl
set_option maxHeartbeats 1000000 in
theorem UR(s:aZ)(R:s.size≤1000000000):aE Tryz.prog 121 [dS s] (dS (jh s)):=by
 have y:=mn3 (a:=s) (b:=⟨#[128]⟩) (by show s.size+1≤_;omega);have p:(s++⟨#[128]⟩:ByteArray).size=s.size+1:=by rw[jO];rfl
 obtain⟨m,hm⟩: ∃m,m=s++(⟨#[128]⟩:ByteArray):=⟨_,rfl⟩
 rw[←hm]at p;have j:((64:Int)≠0)=True:=by simp
 have z:Int.tmod (m.size:Int) 64=(((s.size+1) % 64:Nat):Int):=by rw[p,uI a8];omega
 have A:IntKind.i64.wrap (120-(((s.size+1) % 64:Nat):Int))=((120-(s.size+1) % 64:Nat):Int):=ck a8 a8;have B:Int.tmod ((120-(s.size+1) % 64:Nat):Int) 64=(((120-(s.size+1) % 64) % 64:Nat):Int):=by rw[uI a8];omega
 have hc:=UU ((120-(s.size+1) % 64) % 64) a8;have C:=mn3 (a:=m) (b:=mM ((120-(s.size+1) % 64) % 64)) (by rw[wQ,p];omega);refine aI (F:=zW) SI (by simp[zW]) ?_;simp only[zW]
 repeat' first|refine ak (fun _=> ?_) fun _=> ?_|refine aD ?_|refine aj.data (hc) rfl ?_|simp only[y,←hm,j,z,A,B,C,wy,qg,aC,reduceCtorEq,reduceIte,Nat.reduceAdd,Nat.reduceMul,Nat.reduceEqDiff,Nat.reduceLT,Nat.reduceLeDiff,Nat.reduceSub,ax,aB,ay,au]
 obtain⟨g,c⟩: ∃g,g=m++mM ((120-(s.size+1) % 64) % 64):=⟨_,rfl⟩
 have O:g.size≤2000000000:=by rw[c,jO,wQ,p];omega
 have e:jh s=[7,6,5,4,3,2,1,0].foldl (fun f i=>f++qZ (kX s i)) g:=by rw[c,hm];rfl
 rw[←c];obtain⟨L,o⟩: ∃L:List Nat,L=[7,6,5,4,3,2,1,0]:=⟨_,rfl⟩
 rw[←o]at e;have N:L.length=8:=by rw[o];rfl
 have u: ∀k x,L[k]?=some x→x+k=7:=by
  subst o;intro k x h
  match k,h with
  |0,h|1,h|2,h|3,h|4,h|5,h|6,h|7,h=>simp at h;omega
  |k+8,h=>simp at h
 clear hm y j z A B C hc c o;refine aX.overI L (fun k (b:aZ)=>[(5,.d (.sc (.int .i64 (7-(k:Int))))),(3,.d (.sc (.string b)))]) (fun _ _=>[]) (fun r b=>r.foldl (fun f i=>f++qZ (kX s i)) b) (jh s) (fun k b=>b.size≤2000000000+k) g a8 aA aA rfl e a8 (fun k b x hg Q P S l M=> ?_) (fun b P l M=> ?_)
 ·have T:=u k x hg;have q:decide (7-(k:Int)≥0)=true:=by simp;omega
  have E:IntKind.i64.wrap (8*(7-(k:Int)))=((8*x:Nat):Int):=ck a8 a8;have G:IntKind.u64.wrap ((8*x:Nat):Int)=((8*x:Nat):Int):=Ci rfl a8;have H:IntKind.i64.wrap (7-(k:Int)-1)=7-((k+1:Nat):Int):=by
   simp only[IntKind.wrap,IntKind.bits,IntKind.signed];by_cases K:k=7
   ·subst K;rfl
   ·have:(7-(k:Int)-1) % 2^64=7-(k:Int)-1:=by omega
    simp only[this];simp;omega
  obtain⟨v,w⟩: ∃v,v=IntKind.u8.wrap ((IntKind.u64.wrap (IntKind.u64.wrap s.size*8)).fdiv (2^min (8*x) (IntKind.u64.bits))):=⟨_,rfl⟩
  have I:gl (List.map AV.d [[D.sc (.int .u8 v)]].flatten)=some [UInt8.ofNat v.toNat]:=Nc (n:=v) (by rw[w];exact wD _);have t:qZ (kX s x)=⟨[UInt8.ofNat v.toNat].toArray⟩:=by rw[w];rfl
  have J:=mn3 (a:=b) (b:=⟨[UInt8.ofNat v.toNat].toArray⟩) (by rw[←t,CM];omega);rw[gz,t]at l
  repeat' first|refine ak (fun _=> ?_) fun _=> ?_|refine aD ?_|simp only[q,E,G,H,←w,I,J,wy,qg,aC,reduceCtorEq,reduceIte,Nat.reduceAdd,Nat.reduceMul,Nat.reduceEqDiff,Nat.reduceLT,Nat.reduceLeDiff,Nat.reduceSub,ax,aB,ay,au]
  exact⟨_,rfl,l,by rw[jO,←t,CM];omega⟩
 ·have q:decide (7-((L.length:Nat):Int)≥0)=false:=by simp;omega
  rw[List.foldl_nil]at l;refine aw @q trivial ?_;rw[l]
theorem fD{w:List Int}{i:Nat}(h:i<w.length):w[i]?=some (at_ w i):=by
 rw[at_,bV h];rfl
theorem pM{s:aZ}{i:Nat}(h:i<s.size): ∃b:UInt8,s[i]?=some b∧mW s i=b.toNat:=by
 have a:i<s.data.toList.length:=by rw[fi];exact h
 refine⟨s.data.toList[i],by rw[pI,bV a],?_⟩;rw[mW,bV a]
theorem wN{n:Nat}(h:n<256):IntKind.u32.wrap (n:Int)=(n:Int):=by
 simp only[IntKind.wrap,IntKind.bits,IntKind.signed];have:(n:Int) % 2^32=n:=by omega
 simp only[this];simp
theorem F5(s:aZ): ∀(l:List Nat) (w:List Int),(sA s l w).length=w.length
 |[],w=>rfl
 |t::l,w=>by rw[sA,gz];exact(F5 s l _).trans (by simp)
theorem F6: ∀(l:List Nat) (w:List Int),(sB l w).length=w.length
 |[],w=>rfl
 |t::l,w=>by rw[sB,gz];exact(F6 l _).trans (by simp)
set_option maxHeartbeats 2000000 in
theorem US(s:aZ)(Z:s.size=64):aE Tryz.prog 173 [dS s] (.agg (bp .u32 (sched s))):=by
 refine aI (F:=zY) SL (by simp[zY]) ?_;simp only[zY]
 repeat' first|refine ak (fun _=> ?_) fun _=> ?_|refine aD ?_|simp only[z64,kp (fh ..),aL,dY,fh,wy,qg,aC,reduceCtorEq,reduceIte,Nat.reduceAdd,Nat.reduceMul,Nat.reduceEqDiff,Nat.reduceLT,Nat.reduceLeDiff,Nat.reduceSub,ax,aB,ay,au]
 refine aX.overI (List.range' 0 16) (fun k (w:List Int)=>[(4,iN k)]) (fun k w=>[.cells ((bp .u32 (List.replicate 64 0)).map .d),.cells ((bp .u32 w).map .d)]) (fun r w=>sA s r w) (sA s (List.range' 0 16) (List.replicate 64 0)) (fun k w=>w.length=64) (List.replicate 64 0) (by decide) aA aA rfl rfl (by simp) (fun k w x hg t e z b c=> ?_) (fun w e b c=> ?_)
 ·simp only[jt]at t e;obtain rfl:k=x:=by rw[List.getElem?_range' a8]at hg;simpa using hg
  obtain⟨J,M,m0⟩:=pM (s:=s) (i:=4*k) a8;obtain⟨K,N,Q⟩:=pM (s:=s) (i:=4*k+1) a8;obtain⟨L,n,R⟩:=pM (s:=s) (i:=4*k+2) a8;obtain⟨b3,O,S⟩:=pM (s:=s) (i:=4*k+3) a8;have T:IntKind.i64.wrap (4*(k:Int))=((4*k:Nat):Int):=ck a8 a8
  have B:IntKind.i64.wrap (((4*k:Nat):Int)+1)=((4*k+1:Nat):Int):=ck a8 a8;have E:IntKind.i64.wrap (((4*k:Nat):Int)+2)=((4*k+2:Nat):Int):=ck a8 a8;have U:IntKind.i64.wrap (((4*k:Nat):Int)+3)=((4*k+3:Nat):Int):=ck a8 a8;have v0:=wN J.toNat_lt;have Y:=wN K.toNat_lt;have v2:=wN L.toNat_lt
  have v3:=wN b3.toNat_lt;have f:(k:Int)<16:=by omega
  have u:((k:Int)<64)=True:=by simp;omega
  have a:=fun v=>lJ (k:= .u32) (l:=w) (i:=k) a8 v
  repeat' first|refine ak (fun _=> ?_) fun _=> ?_|refine aD ?_|simp only[f,u,z,T,B,E,U,M,N,n,O,v0,Y,v2,v3,a,Int.reduceLE,Int.reduceLT,Int.reduceGE,Int.reduceGT,Int.reduceEq,Int.reduceNe,Int.reduceBEq,Int.reduceBNe,decide_true,decide_false,wy,qg,aC,reduceCtorEq,reduceIte,Nat.reduceAdd,Nat.reduceMul,Nat.reduceEqDiff,Nat.reduceLT,Nat.reduceLeDiff,Nat.reduceSub,ax,aB,ay,au]
  exact⟨w.set k (qI s k),by rw[qI,m0,Q,R,S];rfl,b,by simp[c]⟩
 ·repeat' first|refine ak (fun _=> ?_) fun _=> ?_|refine aD ?_|simp only[jt,kI,decide_false,wy,qg,aC,reduceCtorEq,reduceIte,Nat.reduceAdd,Nat.reduceMul,Nat.reduceEqDiff,Nat.reduceLT,Nat.reduceLeDiff,Nat.reduceSub,ax,aB,ay,au]
  obtain⟨h,p⟩: ∃h,h=sA s (List.range' 0 16) (List.replicate 64 0):=⟨_,rfl⟩
  have I:sched s=sB (List.range' 16 48) h:=by rw[p];rfl
  have A:w=h:=by rw[p,b];rfl
  subst A;clear p b e;refine aX.overI (List.range' 16 48) (fun k (w:List Int)=>[(5,iN (16+k))]) (fun k w=>[.cells ((bp .u32 (List.replicate 64 0)).map .d),.cells ((bp .u32 w).map .d)]) (fun r w=>sB r w) (sched s) (fun k w=>w.length=64) w (by decide) aA aA rfl I c (fun k w x hg t e z b c=> ?_) (fun w e b c=> ?_)
  ·simp only[jt]at t e;obtain rfl:x=16+k:=by rw[List.getElem?_range' a8]at hg;simp at hg;omega
   clear I hg e;have f:(((16+k:Nat):Int)<64)=True:=by simp;omega
   have C:IntKind.i64.wrap (((16+k:Nat):Int)-15)=((k+1:Nat):Int):=ck a8 a8;have E:IntKind.i64.wrap (((16+k:Nat):Int)-2)=((k+14:Nat):Int):=ck a8 a8;have V:IntKind.i64.wrap (((16+k:Nat):Int)-7)=((k+9:Nat):Int):=ck a8 a8;have D:IntKind.i64.wrap (((16+k:Nat):Int)-16)=(k:Int):=ck a8 a8
   have B:IntKind.i64.wrap (((16+k:Nat):Int)+1)=((16+(k+1):Nat):Int):=ck a8 a8;have G:(((k+1:Nat):Int)<64)=True:=by simp;omega
   have W:(((k+14:Nat):Int)<64)=True:=by simp;omega
   have X:(((k+9:Nat):Int)<64)=True:=by simp;omega
   have H:((k:Int)<64)=True:=by simp;omega
   have j:=fD (w:=w) (i:=k+1) a8;have n:=fD (w:=w) (i:=k+14) a8;have P:=fD (w:=w) (i:=k+9) a8;have m:=fD (w:=w) (i:=k) a8;have a:=fun v=>lJ (k:= .u32) (l:=w) (i:=16+k) a8 v;have o:sched s=sB (List.drop (k+1) (List.range' 16 48)) (w.set (16+k) (pd w (16+k))):=b
   have q:pd w (16+k)=aW (aW (aW (ij (ij (gq (at_ w (k+14)) 17) (gq (at_ w (k+14)) 19)) (shr (at_ w (k+14)) 10)) (at_ w (k+9))) (ij (ij (gq (at_ w (k+1)) 7) (gq (at_ w (k+1)) 18)) (shr (at_ w (k+1)) 3))) (at_ w k):=by
    rw[pd,show 16+k-2=k+14 by omega,show 16+k-7=k+9 by omega,show 16+k-15=k+1 by omega,show 16+k-16=k by omega]
   clear b z
   repeat' first|refine ak (fun _=> ?_) fun _=> ?_|refine aD ?_|refine aj.data (nC _ 17 (by decide)) rfl ?_|refine aj.data (nC _ 19 (by decide)) rfl ?_|refine aj.data (nC _ 7 (by decide)) rfl ?_|refine aj.data (nC _ 18 (by decide)) rfl ?_|simp only[f,C,E,V,D,B,G,W,X,H,j,n,P,m,mH,a,Int.reduceLE,Int.reduceLT,Int.reduceGE,Int.reduceGT,Int.reduceEq,Int.reduceNe,Int.reduceBEq,Int.reduceBNe,decide_true,decide_false,wy,qg,aC,reduceCtorEq,reduceIte,Nat.reduceAdd,Nat.reduceMul,Nat.reduceEqDiff,Nat.reduceLT,Nat.reduceLeDiff,Nat.reduceSub,ax,aB,ay,au]
   exact⟨w.set (16+k) (pd w (16+k)),by rw[q];rfl,o,by simp[c]⟩
  ·rw[jt]at*;have y:sched s=w:=b;have g:(bp .u32 w).take 64=bp .u32 w:=dm (by rw[dY,c];decide)
   repeat' first|refine ak (fun _=> ?_) fun _=> ?_|refine aD ?_|simp only[Int.reduceLE,Int.reduceLT,Int.reduceGE,Int.reduceGT,Int.reduceEq,Int.reduceNe,Int.reduceBEq,Int.reduceBNe,decide_true,decide_false,g,jt,kp (fh ..),aL,dY,c,wy,qg,aC,reduceCtorEq,reduceIte,Nat.reduceAdd,Nat.reduceMul,Nat.reduceEqDiff,Nat.reduceLT,Nat.reduceLeDiff,Nat.reduceSub,ax,aB,ay,au]
   rw[y]
end Go.Proofs.Q
namespace Go.Proofs.Q
open Go Go.Ab Go.Bb
def zb:CF:=⟨77, (.seq (fo [ox 1 0,o0 2 (.mov (.c (.d (.sc (.string ⟨#[]⟩))))),o7 3 0]) (.seq (fo [o6 12 184 [(.c (.nil 3))],o6 13 184 [(.c (.nil 3))],o0 4 (.box (.c (.agg ek))),o0 5 (.box (.c (.agg ek))),o8 3 4 12,o8 3 5 13]) (.seq (.seq (fo [o1 14 3 1,o3 15 14,o9 16 0 15,o7 17 0]) (.block 0 (.loop (.trim [17,4,15,5,1,16] (.seq (fo [o4 18 .lss 17 16]) (.seq (.cond (.t 18) .skip (.exit 0)) (.seq (.block 1 (.seq (fo [oi 19 32 15 17,o2 20 32 19,o0 7 (.box (.c (.agg cN))),o8 32 7 20]) (.ops true [0,1,0,4,12,28,63,127,255] [o1 21 2 4,o3 22 21,o0 23 (.sla 32 1 (.t 7) none none),o0 24 (.b2s (.t 23)),o6 25 185 [.t 24],o0 26 (.bsf 3 1 fv [(0,3,(.t 25))]),o0 27 (.app false 199 3 48 (.t 22) (.t 26)),o1 28 2 4,o8 1 28 27]))) (fo [o5 29 .add 17 1,om 17 29])))))))) (.seq (fo [o6 30 186 [],om 8 30]) (.seq (.seq (fo [o1 31 4 1,o3 32 31,o9 33 0 32,o7 34 0]) (.block 2 (.loop (.trim [34,5,8,32,1,4,33] (.seq (fo [o4 35 .lss 34 33]) (.seq (.cond (.t 35) .skip (.exit 2)) (.seq (.block 3 (.seq (fo [oi 36 139 32 34,o2 37 139 36,o0 10 (.box (.c (.agg pf))),o8 139 10 37]) (.seq (fo [o1 38 0 10,o3 39 38,o6 40 187 [.t 39],o0 41 (.bsl false 199 3 1 ek [(0,3,(.t 40))]),o6 42 184 [.t 41],o0 11 (.box (.c (.agg ek))),o8 3 11 42])
 (.seq (.ops true [0,1,0,0,8,28,0,124,255,511,1023] [o1 43 2 11,o3 44 43,om 45 8,o1 46 0 10,o3 47 46,o0 48 (.lkp false [.i] (.d (.sc .nilFunc)) false (.t 45) (.t 47)),o2 49 139 10,o0 50 (.call (.val (.t 48)) [.t 49]),o0 51 (.app false 199 3 48 (.t 44) (.t 50)),o1 52 2 11,o8 1 52 51]) (fo [o1 53 2 5,o3 54 53,o2 55 3 11,o0 56 (.bsf 3 1 fv [(0,3,(.t 55))]),o0 57 (.app false 199 3 48 (.t 54) (.t 56)),o1 58 2 5,o8 1 58 57]))))) (fo [o5 59 .add 34 1,om 34 59])))))))) (.seq (.ops true [0,0,2,7,0,16,63,0,128,511,0,0,4095,8191,16383,32767,32767,131071,262143] [o0 60 (.call (.fn 185) [(.c (.d (.sc (.string ⟨#[113,117,105,108,116,49]⟩))))]),o1 61 0 1,o3 62 61,o6 63 185 [.t 62],o1 64 1 1,o3 65 64,o6 66 185 [.t 65],o1 67 2 1,o3 68 67,o6 69 187 [.t 68],o2 70 3 4,o2 71 3 5,o0 72 (.bsf 3 6 FH [(0,3,(.t 60)),(3,3,(.t 63)),(6,3,(.t 66)),(9,3,(.t 69)),(12,3,(.t 70)),(15,3,(.t 71))]),o6 73 184 [.t 72],o6 74 188 [.t 73],oe 75 74 0,oe 76 74 1,om 2 75,om 3 76]) .ret)))))),[.tmp 2,.tmp 3]⟩
theorem RY:aG Tryz.prog [100001,100026,100056,100072] 134=some zb.erase:=by kernel_rfl
def zf:CF:=⟨3, (.seq (fo [o0 0 (.mov (.c (.d (.sc (.map none)))))]) (.seq (fo [o0 1 (.mkm false),oN (.mup false [.i] (.t 1) (xi 1) (.c (.clo 236 [] []))),oN (.mup false [.i] (.t 1) (xi 2) (.c (.clo 237 [] []))),oN (.mup false [.i] (.t 1) (xi 3) (.c (.clo 240 [] []))),oN (.mup false [.i] (.t 1) (xi 4) (.c (.clo 241 [] []))),oN (.mup false [.i] (.t 1) (xi 5) (.c (.clo 242 [] []))),oN (.mup false [.i] (.t 1) (xi 6) (.c (.clo 244 [] []))),oN (.mup false [.i] (.t 1) (xi 7) (.c (.clo 245 [] []))),om 2 1,om 0 2]) .ret)),[.tmp 0]⟩
theorem S2:aG Tryz.prog [] 186=some zf.erase:=by kernel_rfl
def zg:CF:=⟨7, (.seq (fo [ox 1 0,o0 2 (.mov (.c (.nil 3)))]) (.seq (fo [o1 3 34 1,o3 4 3,o6 5 187 [.t 4],o0 6 (.bsf 3 1 fv [(0,3,(.t 5))]),om 2 6]) .ret)),[.tmp 2]⟩
theorem S3:aG Tryz.prog [100001,100006] 236=some zg.erase:=by kernel_rfl
def zh:CF:=⟨16, (.seq (fo [ox 1 0,o0 2 (.mov (.c (.nil 3)))]) (.seq (.ops true [0,1,3,0,8,31,0,64,255,0,512,2047,4095,8191] [o1 3 1 1,o2 4 33 3,o6 5 238 [.t 4],o1 6 35 1,o2 7 33 6,o6 8 238 [.t 7],o1 9 68 1,o3 10 9,o6 11 185 [.t 10],o1 12 138 1,o3 13 12,o6 14 239 [.t 13],o0 15 (.bsf 3 4 Cl [(0,3,(.t 5)),(3,3,(.t 8)),(6,3,(.t 11)),(9,3,(.t 14))]),om 2 15]) .ret)),[.tmp 2]⟩
theorem S4:aG Tryz.prog [100001,100015] 237=some zh.erase:=by kernel_rfl
def zi:CF:=⟨13, (.seq (fo [ox 1 0,o0 2 (.mov (.c (.nil 3)))]) (.seq (.ops true [0,1,3,0,8,31,0,64,255,511,1023] [o1 3 1 1,o2 4 33 3,o6 5 238 [.t 4],o1 6 69 1,o3 7 6,o6 8 187 [.t 7],o1 9 138 1,o3 10 9,o6 11 239 [.t 10],o0 12 (.bsf 3 3 FG [(0,3,(.t 5)),(3,3,(.t 8)),(6,3,(.t 11))]),om 2 12]) .ret)),[.tmp 2]⟩
theorem S5:aG Tryz.prog [100001,100012] 240=some zi.erase:=by kernel_rfl
def zj:CF:=⟨13, (.seq (fo [ox 1 0,o0 2 (.mov (.c (.nil 3)))]) (.seq (.ops true [0,1,3,0,8,31,0,64,255,511,1023] [o1 3 1 1,o2 4 33 3,o6 5 238 [.t 4],o1 6 70 1,o3 7 6,o6 8 185 [.t 7],o1 9 138 1,o3 10 9,o6 11 239 [.t 10],o0 12 (.bsf 3 3 FG [(0,3,(.t 5)),(3,3,(.t 8)),(6,3,(.t 11))]),om 2 12]) .ret)),[.tmp 2]⟩
theorem S6:aG Tryz.prog [100001,100012] 241=some zj.erase:=by kernel_rfl
def zk:CF:=⟨16, (.seq (fo [ox 1 0,o0 2 (.mov (.c (.nil 3)))]) (.seq (.ops true [0,1,3,0,8,31,0,64,255,0,512,2047,4095,8191] [o1 3 1 1,o2 4 33 3,o6 5 238 [.t 4],o1 6 71 1,o2 7 33 6,o6 8 238 [.t 7],o1 9 104 1,o2 10 33 9,o6 11 238 [.t 10],o1 12 137 1,o3 13 12,o6 14 243 [.t 13],o0 15 (.bsf 3 4 Cl [(0,3,(.t 5)),(3,3,(.t 8)),(6,3,(.t 11)),(9,3,(.t 14))]),om 2 15]) .ret)),[.tmp 2]⟩
theorem S7:aG Tryz.prog [100001,100015] 242=some zk.erase:=by kernel_rfl
def zl:CF:=⟨16, (.seq (fo [ox 1 0,o0 2 (.mov (.c (.nil 3)))]) (.seq (.ops true [0,1,3,0,8,31,0,64,255,0,512,2047,4095,8191] [o1 3 1 1,o2 4 33 3,o6 5 238 [.t 4],o1 6 71 1,o2 7 33 6,o6 8 238 [.t 7],o1 9 104 1,o2 10 33 9,o6 11 238 [.t 10],o1 12 138 1,o3 13 12,o6 14 239 [.t 13],o0 15 (.bsf 3 4 Cl [(0,3,(.t 5)),(3,3,(.t 8)),(6,3,(.t 11)),(9,3,(.t 14))]),om 2 15]) .ret)),[.tmp 2]⟩
theorem S8:aG Tryz.prog [100001,100015] 244=some zl.erase:=by kernel_rfl
def zm:CF:=⟨7, (.seq (fo [ox 1 0,o0 2 (.mov (.c (.nil 3)))]) (.seq (fo [o1 3 138 1,o3 4 3,o6 5 239 [.t 4],o0 6 (.bsf 3 1 fv [(0,3,(.t 5))]),om 2 6]) .ret)),[.tmp 2]⟩
theorem S9:aG Tryz.prog [100001,100006] 245=some zm.erase:=by kernel_rfl
def zo:CF:=⟨6, (.seq (fo [ox 2 0,ox 3 1,o0 4 (.mov (.c (.d (.sc .nilFunc))))]) (.seq (fo [o0 5 (.mkf 182 [] [.t 3,.t 2]),om 4 5]) .ret)),[.tmp 4]⟩
theorem Sb:aG Tryz.prog [100002,100003] 133=some zo.erase:=by kernel_rfl
def rG:CF:=⟨144, (.seq (fo [o0 11 (.mkf 183 [] [.t 1]),om 4 11]) (.seq (fo [o1 12 0 2,o3 13 12]) (.block 0 (.seq (fo [o5 15 .eql 13 1,om 14 15]) (.cond (.t 14) (.ops true [0,0,2,0,14,0,32,126,255] [om 16 0,om 17 4,o0 18 (.call (.val (.t 17)) [(xi 0)]),om 19 4,o0 20 (.call (.val (.t 19)) [(xi 0)]),o1 21 34 2,o3 22 21,o0 23 (.bld eu [(0,33,(.t 18)),(33,1,(xi 1)),(34,33,(.t 20)),(67,1,(.t 22))]),o0 24 (.call (.val (.t 16)) [.t 23])]) (.seq (fo [o5 26 .eql 13 2,om 25 26]) (.cond (.t 25) (.ops true [0,0,2,0,8,0,32,0,128,0,512,2046,4095] [om 27 0,om 28 4,o0 29 (.call (.val (.t 28)) [(xi 0)]),o1 30 1 2,o2 31 33 30,o1 32 35 2,o2 33 33 32,o1 34 68 2,o3 35 34,o1 36 138 2,o3 37 36,o0 38 (.bld eu [(0,33,(.t 29)),(33,1,(xi 2)),(34,33,(.t 31)),(68,33,(.t 33)),(101,1,(.t 35)),(171,1,(.t 37))]),o0 39 (.call (.val (.t 27)) [.t 38])]) (.seq (fo [o5 41 .eql 13 3,om 40 41]) (.cond (.t 40) (.ops true [0,0,2,0,8,0,32,0,128,510,1023] [om 42 0,om 43 4,o0 44 (.call (.val (.t 43)) [(xi 0)]),o1 45 1 2,o2 46 33 45,o1 47 69 2,o3 48 47,o1 49 138 2,o3 50 49,o0 51 (.bld eu [(0,33,(.t 44)),(33,1,(xi 3)),(34,33,(.t 46)),(102,1,(.t 48)),(171,1,(.t 50))]),o0 52 (.call (.val (.t 42)) [.t 51])])
 (.seq (fo [o5 54 .eql 13 4,om 53 54]) (.cond (.t 53) (.ops true [0,0,2,0,8,0,32,0,128,510,1023] [om 55 0,om 56 4,o0 57 (.call (.val (.t 56)) [(xi 0)]),o1 58 1 2,o2 59 33 58,o1 60 70 2,o3 61 60,o1 62 138 2,o3 63 62,o0 64 (.bld eu [(0,33,(.t 57)),(33,1,(xi 4)),(34,33,(.t 59)),(103,1,(.t 61)),(171,1,(.t 63))]),o0 65 (.call (.val (.t 55)) [.t 64])]) (.seq (fo [o5 67 .eql 13 6,om 66 67]) (.cond (.t 66) (.ops true [0,0,2,0,8,0,32,0,128,0,512,2046,4095] [om 68 0,om 69 4,o0 70 (.call (.val (.t 69)) [(xi 0)]),o1 71 1 2,o2 72 33 71,o1 73 71 2,o2 74 33 73,o1 75 104 2,o2 76 33 75,o1 77 138 2,o3 78 77,o0 79 (.bld eu [(0,33,(.t 70)),(33,1,(xi 6)),(34,33,(.t 72)),(105,33,(.t 74)),(138,33,(.t 76)),(171,1,(.t 78))]),o0 80 (.call (.val (.t 68)) [.t 79])]) (.seq (fo [o5 82 .eql 13 7,om 81 82]) (.cond (.t 81) (.ops true [0,0,2,0,8,30,63] [om 83 0,om 84 4,o0 85 (.call (.val (.t 84)) [(xi 0)]),o1 86 138 2,o3 87 86,o0 88 (.bld eu [(0,33,(.t 85)),(33,1,(xi 7)),(171,1,(.t 87))]),o0 89 (.call (.val (.t 83)) [.t 88])]) (.seq (fo [o5 91 .eql 13 5,om 90 91]) (.cond (.t 90) (.seq (.seq (fo [o1 92 137 2,o3 93 92,o9 94 0 93,o7 95 0]) (.block 1 (.loop (.trim [95,2,4,0,93,94] (.seq (fo [o4 96 .lss 95 94]) (.seq (.cond (.t 96) .skip (.exit 1)) (.seq (.block 2 (.seq (fo [om 97 95,oi 98 1 93 95,o3 99 98,om 5 97,om 6 99])
 (.seq (.ops true [0,0,0,6,0,16,0,126,255,511] [om 100 0,om 101 4,om 102 5,o0 103 (.call (.val (.t 101)) [.t 102]),o1 104 1 2,o2 105 33 104,om 106 6,o0 107 (.bld eu [(0,33,(.t 103)),(33,1,(xi 5)),(34,33,(.t 105)),(104,1,(.t 106))]),o0 108 (.call (.val (.t 100)) [.t 107]),o0 109 (.not (.t 108))]) (.cond (.t 109) .ret .skip)))) (fo [o5 110 .add 95 1,om 95 110])))))))) (.seq (fo [o1 111 137 2,o3 112 111,o9 113 0 112,om 7 113]) (.seq (fo [o1 114 71 2,o2 115 33 114,o0 8 (.box (.c (.agg dW))),o8 33 8 115]) (.seq (fo [om 116 7,o5 117 .add 116 1,o7 118 0]) (.block 3 (.loop (.trim [8,118,2,7,4,0,117] (.seq (fo [o4 119 .lss 118 117]) (.seq (.cond (.t 119) .skip (.exit 3)) (.seq (.block 4 (.seq (fo [om 120 118,om 9 120]) (.seq (fo [o1 121 104 2,o2 122 33 121,o0 10 (.box (.c (.agg dW))),o8 33 10 122]) (.seq (.seq (fo [om 123 9,om 124 7,o4 125 .lss 123 124]) (.cond (.t 125) (fo [om 126 4,om 127 9,o0 128 (.call (.val (.t 126)) [.t 127]),o8 33 10 128]) .skip)) (.seq (.seq (.ops true [0,0,0,0,12,30,0,64,0,0,1022,2047,4095] [om 129 0,om 130 4,om 131 7,om 132 9,o4 133 .add 131 132,o0 134 (.call (.val (.t 130)) [.t 133]),o1 135 1 2,o2 136 33 135,o2 137 33 8,o2 138 33 10,o0 139 (.bld eu [(0,33,(.t 134)),(33,1,(xi 6)),(34,33,(.t 136)),(105,33,(.t 137)),(138,33,(.t 138))]),o0 140 (.call (.val (.t 129)) [.t 139]),o0 141 (.not (.t 140))]) (.cond (.t 141) .ret .skip)) (fo [o2 142 33 10,o8 33 8 142])))))) (fo [o5 143 .add 118 1,om 118 143]))))))))))) .skip))))))))))))))))),[]⟩
theorem IX:aG Tryz.prog [300023,300038,300051,300064,300079,300088,300107,300139] 182=some rG.erase:=by kernel_rfl
def zp:CF:=⟨8, (.seq (fo [o0 3 (.box (.c (.agg dW)))]) (.seq (fo [o3 4 1,om 5 0,o4 6 .add 4 5,o0 7 (.bld dW [(32,1,(.t 6))]),o8 33 3 7]) .ret)),[.cell 3 (some 33)]⟩
theorem Sc:aG Tryz.prog [300007] 183=some zp.erase:=by kernel_rfl
def yW:CF:=⟨13, (.seq (fo [ox 1 0,o7 2 0]) (.seq (fo [o2 7 5 1,o6 8 92 [.t 7],om 6 8,oe 9 6 0,oe 10 6 1,oe 11 6 2,om 3 9,om 4 10,om 5 11]) (.seq (fo [om 12 5,om 2 12]) .ret))),[.tmp 2]⟩
theorem RQ:aG Tryz.prog [100001] 59=some yW.erase:=by kernel_rfl
def yZ:CF:=⟨15, (.seq (fo [ox 1 0,o0 2 (.mov (.c (.d (.sc (.string ⟨#[]⟩))))),o7 3 0]) (.seq (fo [o2 8 5 1,o6 9 92 [.t 8],om 7 9,oe 10 7 0,oe 11 7 1,oe 12 7 2,om 4 10,om 5 11,om 6 12]) (.seq (fo [om 13 5,om 14 6,om 2 13,om 3 14]) .ret))),[.tmp 2,.tmp 3]⟩
theorem RU:aG Tryz.prog [100001] 143=some yZ.erase:=by kernel_rfl
def rE:CF:=⟨17, (.seq (fo [ox 1 0,o0 2 (.box (.c (.agg cN))),o7 3 0]) (.seq (fo [o2 7 5 1,o6 8 143 [.t 7],om 6 8,oe 9 6 0,oe 10 6 1,om 4 9,om 5 10]) (.seq (.seq (fo [om 11 5,o5 12 .neq 11 0]) (.cond (.t 12) (.seq (fo [o0 13 (.bld cN []),om 14 5,o8 32 2 13,om 3 14]) .ret) .skip)) (.seq (fo [om 15 4,o6 16 144 [.t 15],o8 32 2 16,o7 3 0]) .ret)))),[.cell 2 (some 32),.tmp 3]⟩
theorem IV:aG Tryz.prog [100001,300013] 99=some rE.erase:=by kernel_rfl
def yY:CF:=⟨14, (.seq (fo [ox 1 0,o7 2 0]) (.seq (fo [o2 7 5 1,o6 8 92 [.t 7],om 6 8,oe 9 6 0,oe 10 6 1,oe 11 6 2,om 3 9,om 4 10,om 5 11]) (.seq (fo [om 12 3,o9 13 0 12,om 2 13]) .ret))),[.tmp 2]⟩
theorem RT:aG Tryz.prog [100001] 91=some yY.erase:=by kernel_rfl
end Go.Proofs.Q
