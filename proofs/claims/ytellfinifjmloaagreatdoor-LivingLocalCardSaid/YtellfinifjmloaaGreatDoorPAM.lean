/- Lemmas. -/
import Derived.Test.YtellfinifjmloaaGreatDoorPAJ
set_option linter.unusedVariables false
set_option linter.unusedSimpArgs false
namespace Go.Proofs.Q
open Go Go.Bb Go.RowKit Go.Proofs.Lg
open Go.Ab (D RD)
theorem Ez{n:Int}{m:Nat}(h:n=m)(hm:m<18446744073709551616):Go.IntKind.u64.wrap n=(m:Int):=by
 subst h;simp only[Go.IntKind.wrap,Go.IntKind.bits,Go.IntKind.signed];have:((m:Int) % 2^64)=m:=by omega
 simp only[this];simp
theorem zu{a b:ByteArray}(h:a.size+b.size≤9223372036854775807):(((a.size+b.size:Nat):Int)≤9223372036854775807)=True:=by simp;omega
theorem pA(x:Int)(n:Nat)(b:n≤32):aG Tryz.prog 229 [.sc (.int .u32 x),.sc (.int .u64 n)] (.sc (.int .u32 (gP x n))):=by
 have a:IntKind.u64.wrap (32-(n:Int))=((32-n:Nat):Int):=Ez a8 a8;refine aM (F:=C3) XJ (by simp[C3]) ?_;simp only[C3];refine aO @a ab ?_
 all_goals rfl
theorem yN: ∀n,(oI n).size=n
 |0=>rfl
 |n+1=>by rw[oI,kQ,yN n];rfl
theorem ZV(n:Nat)(g:n≤1000000):aG Tryz.prog 226 [dI n] (dS (oI n)):=by
 refine aM (F:=C6) XM (by simp[C6]) ?_;simp only[C6];refine aO ab ab ?_
 refine aZ.over (List.range n) (fun k (_:Unit)=>[(4,iN k),(3,.d (.sc (.string (oI k))))]) (fun _ _=>[]) (fun _ _=>()) () () (by simp;omega) aB (by simp only[wy,qg,aH,reduceCtorEq,reduceIte,Nat.reduceAdd,Nat.reduceMul,Nat.reduceEqDiff,Nat.reduceLT,Nat.reduceLeDiff,Nat.reduceSub,aA,aF,aE,aw];rfl) rfl rfl (fun k _ x hg hk c f e=> ?_) (fun _ c e=> ?_)
 ·simp only[ew]at c hk;have hc:=zu (a:=oI k) (b:=⟨#[0]⟩) (by rw[yN];show k+1≤_;omega);refine aO (ga @c (ga @f @hc)) ab ?_;exact⟨(),rfl⟩
 ·simp only[ew]at c;exact bU @c ab
theorem EY(n:Int):(sn n).size=1:=rfl
theorem QZ{n:Int}(h:0≤n∧n<256):gH [.d (.sc (.int .u8 n))]=some [UInt8.ofNat n.toNat]:=by
 simp only[gH,qO,h,and_self,if_true,dP,eZ]
theorem Kj(s:bh): ∀(l:List Nat) (b:bh),(l.foldl (fun out i=>out++sn (ml s i)) b).size=b.size+l.length
 |[],b=>rfl
 |i::l,b=>by rw[gD,Kj s l,kQ,EY,aY];omega
theorem MZ(s:bh):(jO s).size=s.size+1+(120-(s.size+1) % 64) % 64+8:=by
 unfold jO;rw[Kj,kQ,kQ,yN];rfl
set_option maxHeartbeats 1000000 in
theorem ZS(s:bh)(P:s.size≤1000000000):aG Tryz.prog 170 [dS s] (dS (jO s)):=by
 have q:=zu (a:=s) (b:=⟨#[128]⟩) (by show s.size+1≤_;omega);have p:(s++⟨#[128]⟩:ByteArray).size=s.size+1:=by rw[kQ];rfl
 obtain⟨m,hm⟩: ∃m,m=s++(⟨#[128]⟩:ByteArray):=⟨_,rfl⟩
 rw[←hm]at p;have f:((64:Int)≠0)=True:=by simp
 have t:Int.tmod (m.size:Int) 64=(((s.size+1) % 64:Nat):Int):=by rw[p,wb a8];omega
 have u:IntKind.i64.wrap (120-(((s.size+1) % 64:Nat):Int))=((120-(s.size+1) % 64:Nat):Int):=bE a8 a8;have w:Int.tmod ((120-(s.size+1) % 64:Nat):Int) 64=(((120-(s.size+1) % 64) % 64:Nat):Int):=by rw[wb a8];omega
 have hc:=ZV ((120-(s.size+1) % 64) % 64) a8;have y:=zu (a:=m) (b:=oI ((120-(s.size+1) % 64) % 64)) (by rw[yN,p];omega);refine aM (F:=C2) XI (by simp[C2]) ?_;simp only[C2]
 repeat' first|simp only[←hm]|refine ae (fun _=> ?_) fun _=> ?_|refine ay (ga @q (ga @f (ga @t (ga @u (ga @w @y))))) @hc ?_|exact ax (ga @q (ga @f (ga @t (ga @u (ga @w @y))))) @hc|fail
 obtain⟨g,c⟩: ∃g,g=m++oI ((120-(s.size+1) % 64) % 64):=⟨_,rfl⟩
 have N:g.size≤2000000000:=by rw[c,kQ,yN,p];omega
 have e:jO s=[7,6,5,4,3,2,1,0].foldl (fun out i=>out++sn (ml s i)) g:=by rw[c,hm];rfl
 rw[←c];obtain⟨L,o⟩: ∃L:List Nat,L=[7,6,5,4,3,2,1,0]:=⟨_,rfl⟩
 rw[←o]at e;have M:L.length=8:=by rw[o];rfl
 have A: ∀k x,L[k]?=some x→x+k=7:=by
  subst o;intro k x h
  match k,h with
  |0,h|1,h|2,h|3,h|4,h|5,h|6,h|7,h=>simp at h;omega
  |k+8,h=>simp at h
 clear hm q f t u w y hc c o;refine aZ.overI L (fun k (b:bh)=>[(5,.d (.sc (.int .i64 (7-(k:Int))))),(3,.d (.sc (.string b)))]) (fun _ _=>[]) (fun r b=>r.foldl (fun out i=>out++sn (ml s i)) b) (jO s) (fun k b=>b.size≤2000000000+k) g a8 aB aB rfl e a8 (fun k b x hg hk O Q j K=> ?_) (fun b O j K=> ?_)
 ·have R:=A k x hg;have l:decide (7-(k:Int)≥0)=true:=by simp;omega
  have C:IntKind.i64.wrap (8*(7-(k:Int)))=((8*x:Nat):Int):=bE a8 a8;have E:IntKind.u64.wrap ((8*x:Nat):Int)=((8*x:Nat):Int):=Ez rfl a8;have G:IntKind.i64.wrap (7-(k:Int)-1)=7-((k+1:Nat):Int):=by
   simp only[IntKind.wrap,IntKind.bits,IntKind.signed];by_cases J:k=7
   ·subst J;rfl
   ·have:(7-(k:Int)-1) % 2^64=7-(k:Int)-1:=by omega
    simp only[this];simp;omega
  obtain⟨v,B⟩: ∃v,v=IntKind.u8.wrap ((IntKind.u64.wrap (IntKind.u64.wrap s.size*8)).fdiv (2^min (8*x) (IntKind.u64.bits))):=⟨_,rfl⟩
  have H:gH (List.map AV.d [[D.sc (.int .u8 v)]].flatten)=some [UInt8.ofNat v.toNat]:=QZ (n:=v) (by rw[B];exact yA _);have z:sn (ml s x)=⟨[UInt8.ofNat v.toNat].toArray⟩:=by rw[B];rfl
  have I:=zu (a:=b) (b:=⟨[UInt8.ofNat v.toNat].toArray⟩) (by rw[←z,EY];omega);rw[gD,z]at j
  repeat' first|simp only[←B]|refine ae (fun _=> ?_) fun _=> ?_|refine ay (ga @l (ga @C (ga @E (ga @G (ga @H @I))))) ab ?_|exact ax (ga @l (ga @C (ga @E (ga @G (ga @H @I))))) ab|fail
  exact⟨_,rfl,j,by rw[kQ,←z,EY];omega⟩
 ·have l:decide (7-((L.length:Nat):Int)≥0)=false:=by simp;omega
  rw[uf]at j;refine aO @l ab ?_;rw[j]
theorem fX{w:List Int}{i:Nat}(h:i<w.length):w[i]?=some (at_ w i):=by
 rw[at_,bN h];rfl
theorem qP{s:bh}{i:Nat}(h:i<s.size): ∃b:UInt8,s[i]?=some b∧oV s i=b.toNat:=by
 have a:i<s.data.toList.length:=by rw[fD];exact h
 refine⟨s.data.toList[i],by rw[qM,bN a],?_⟩;rw[oV,bN a]
theorem yI{n:Nat}(h:n<256):IntKind.u32.wrap (n:Int)=(n:Int):=by
 simp only[IntKind.wrap,IntKind.bits,IntKind.signed];have:(n:Int) % 2^32=n:=by omega
 simp only[this];simp
theorem Hl(s:bh): ∀(l:List Nat) (w:List Int),(tS s l w).length=w.length
 |[],w=>rfl
 |t::l,w=>by rw[tS,gD];exact(Hl s l _).trans (by simp)
theorem Hm: ∀(l:List Nat) (w:List Int),(tT l w).length=w.length
 |[],w=>rfl
 |t::l,w=>by rw[tT,gD];exact(Hm l _).trans (by simp)
set_option maxHeartbeats 2000000 in
theorem ZT(s:bh)(X:s.size=64):aG Tryz.prog 227 [dS s] (.agg (bt .u32 (sched s))):=by
 refine aM (F:=C4) XK (by simp[C4]) ?_;simp only[C4]
 repeat' first|refine ae (fun _=> ?_) fun _=> ?_|refine aL ?_|simp only[z64,lq (fN ..),aQ,ed,fN,wy,qg,aH,reduceCtorEq,reduceIte,Nat.reduceAdd,Nat.reduceMul,Nat.reduceEqDiff,Nat.reduceLT,Nat.reduceLeDiff,Nat.reduceSub,aA,aF,aE,aw]
 refine aZ.overI (List.range' 0 16) (fun k (w:List Int)=>[(4,iN k)]) (fun k w=>[.cells ((bt .u32 (List.replicate 64 0)).map .d),.cells ((bt .u32 w).map .d)]) (fun r w=>tS s r w) (tS s (List.range' 0 16) (List.replicate 64 0)) (fun k w=>w.length=64) (List.replicate 64 0) (by decide) aB aB rfl rfl (by simp) (fun k w x hg hk e y b c=> ?_) (fun w e b c=> ?_)
 ·simp only[jZ]at hk e;obtain rfl:k=x:=by rw[List.getElem?_range' a8]at hg;simpa using hg
  obtain⟨I,L,m0⟩:=qP (s:=s) (i:=4*k) a8;obtain⟨J,M,P⟩:=qP (s:=s) (i:=4*k+1) a8;obtain⟨K,n,Q⟩:=qP (s:=s) (i:=4*k+2) a8;obtain⟨b3,N,R⟩:=qP (s:=s) (i:=4*k+3) a8;have S:IntKind.i64.wrap (4*(k:Int))=((4*k:Nat):Int):=bE a8 a8
  have A:IntKind.i64.wrap (((4*k:Nat):Int)+1)=((4*k+1:Nat):Int):=bE a8 a8;have D:IntKind.i64.wrap (((4*k:Nat):Int)+2)=((4*k+2:Nat):Int):=bE a8 a8;have T:IntKind.i64.wrap (((4*k:Nat):Int)+3)=((4*k+3:Nat):Int):=bE a8 a8;have v0:=yI I.toNat_lt;have W:=yI J.toNat_lt;have v2:=yI K.toNat_lt
  have v3:=yI b3.toNat_lt;have f:(k:Int)<16:=by omega
  have t:((k:Int)<64)=True:=by simp;omega
  have a:=fun v=>nj (k:= .u32) (l:=w) (i:=k) a8 v
  repeat' first|refine ae (fun _=> ?_) fun _=> ?_|refine aL ?_|simp only[f,t,y,S,A,D,T,L,M,n,N,v0,W,v2,v3,a,Int.reduceLE,Int.reduceLT,Int.reduceGE,Int.reduceGT,Int.reduceEq,Int.reduceNe,Int.reduceBEq,Int.reduceBNe,decide_true,decide_false,wy,qg,aH,reduceCtorEq,reduceIte,Nat.reduceAdd,Nat.reduceMul,Nat.reduceEqDiff,Nat.reduceLT,Nat.reduceLeDiff,Nat.reduceSub,aA,aF,aE,aw]
  exact⟨w.set k (rU s k),by rw[rU,m0,P,Q,R];rfl,b,by simp[c]⟩
 ·repeat' first|refine ae (fun _=> ?_) fun _=> ?_|refine aL ?_|simp only[jZ,lP,decide_false,wy,qg,aH,reduceCtorEq,reduceIte,Nat.reduceAdd,Nat.reduceMul,Nat.reduceEqDiff,Nat.reduceLT,Nat.reduceLeDiff,Nat.reduceSub,aA,aF,aE,aw]
  obtain⟨h,p⟩: ∃h,h=tS s (List.range' 0 16) (List.replicate 64 0):=⟨_,rfl⟩
  have H:sched s=tT (List.range' 16 48) h:=by rw[p];rfl
  have z:w=h:=by rw[p,b];rfl
  subst z;clear p b e;refine aZ.overI (List.range' 16 48) (fun k (w:List Int)=>[(5,iN (16+k))]) (fun k w=>[.cells ((bt .u32 (List.replicate 64 0)).map .d),.cells ((bt .u32 w).map .d)]) (fun r w=>tT r w) (sched s) (fun k w=>w.length=64) w (by decide) aB aB rfl H c (fun k w x hg hk e y b c=> ?_) (fun w e b c=> ?_)
  ·simp only[jZ]at hk e;obtain rfl:x=16+k:=by rw[List.getElem?_range' a8]at hg;simp at hg;omega
   clear H hg e;have f:(((16+k:Nat):Int)<64)=True:=by simp;omega
   have B:IntKind.i64.wrap (((16+k:Nat):Int)-15)=((k+1:Nat):Int):=bE a8 a8;have D:IntKind.i64.wrap (((16+k:Nat):Int)-2)=((k+14:Nat):Int):=bE a8 a8;have U:IntKind.i64.wrap (((16+k:Nat):Int)-7)=((k+9:Nat):Int):=bE a8 a8;have C:IntKind.i64.wrap (((16+k:Nat):Int)-16)=(k:Int):=bE a8 a8
   have A:IntKind.i64.wrap (((16+k:Nat):Int)+1)=((16+(k+1):Nat):Int):=bE a8 a8;have E:(((k+1:Nat):Int)<64)=True:=by simp;omega
   have r2:(((k+14:Nat):Int)<64)=True:=by simp;omega
   have V:(((k+9:Nat):Int)<64)=True:=by simp;omega
   have G:((k:Int)<64)=True:=by simp;omega
   have j:=fX (w:=w) (i:=k+1) a8;have n:=fX (w:=w) (i:=k+14) a8;have O:=fX (w:=w) (i:=k+9) a8;have m:=fX (w:=w) (i:=k) a8;have a:=fun v=>nj (k:= .u32) (l:=w) (i:=16+k) a8 v;have o:sched s=tT (List.drop (k+1) (List.range' 16 48)) (w.set (16+k) (qw w (16+k))):=b
   have q:qw w (16+k)=aW (aW (aW (iE (iE (gP (at_ w (k+14)) 17) (gP (at_ w (k+14)) 19)) (shr (at_ w (k+14)) 10)) (at_ w (k+9))) (iE (iE (gP (at_ w (k+1)) 7) (gP (at_ w (k+1)) 18)) (shr (at_ w (k+1)) 3))) (at_ w k):=by
    rw[qw,show 16+k-2=k+14 by omega,show 16+k-7=k+9 by omega,show 16+k-15=k+1 by omega,show 16+k-16=k by omega]
   clear b y
   repeat' first|refine ae (fun _=> ?_) fun _=> ?_|refine aL ?_|refine aq.data (pA _ 17 (by decide)) rfl ?_|refine aq.data (pA _ 19 (by decide)) rfl ?_|refine aq.data (pA _ 7 (by decide)) rfl ?_|refine aq.data (pA _ 18 (by decide)) rfl ?_|simp only[f,B,D,U,C,A,E,r2,V,G,j,n,O,m,oy,a,Int.reduceLE,Int.reduceLT,Int.reduceGE,Int.reduceGT,Int.reduceEq,Int.reduceNe,Int.reduceBEq,Int.reduceBNe,decide_true,decide_false,wy,qg,aH,reduceCtorEq,reduceIte,Nat.reduceAdd,Nat.reduceMul,Nat.reduceEqDiff,Nat.reduceLT,Nat.reduceLeDiff,Nat.reduceSub,aA,aF,aE,aw]
   exact⟨w.set (16+k) (qw w (16+k)),by rw[q];rfl,o,by simp[c]⟩
  ·rw[jZ]at*;have u:sched s=w:=b;have g:(bt .u32 w).take 64=bt .u32 w:=dq (by rw[ed,c];decide)
   repeat' first|refine ae (fun _=> ?_) fun _=> ?_|refine aL ?_|simp only[Int.reduceLE,Int.reduceLT,Int.reduceGE,Int.reduceGT,Int.reduceEq,Int.reduceNe,Int.reduceBEq,Int.reduceBNe,decide_true,decide_false,g,jZ,lq (fN ..),aQ,ed,c,wy,qg,aH,reduceCtorEq,reduceIte,Nat.reduceAdd,Nat.reduceMul,Nat.reduceEqDiff,Nat.reduceLT,Nat.reduceLeDiff,Nat.reduceSub,aA,aF,aE,aw]
   rw[u]
end Go.Proofs.Q
namespace Go.Proofs.Q
open Go Go.Ab Go.Bb
def Bk:CF:=⟨63, (kq [kM 2 xF] (.seq (kq [om 5 0,o9 6 1 5,o7 7 0] (.block 0 (.loop (.trim [7,0,6] (kq [o4 8 .lss 7 6] (.seq (kd 8 .skip (.exit 0)) (.seq (.block 1 (kq [om 9 7,om 3 9] (kq [om 10 0,om 11 3,o0 12 (.six (.t 10) (.t 11)),om 4 12] (kq [om 13 4,o0 14 (.bin .lss (.t 13) (.c (.d (.sc (.int .u8 97))))),om 15 14,oh 16 15 false 4,kG 17 15 false .gtr (.t 16) (.c (.d (.sc (.int .u8 122)))),kR 18 15 17,om 19 18,oh 20 19 true 4,kG 21 19 true .lss (.t 20) (.c (.d (.sc (.int .u8 65)))),oh 22 19 true 21,oh 23 22 false 4,kG 24 22 false .gtr (.t 23) (.c (.d (.sc (.int .u8 90)))),og 25 19 true (.pick (.t 22) xT (.t 24)),kP 26 19 25,om 27 26,oh 28 27 true 4,kG 29 27 true .lss (.t 28) (.c (.d (.sc (.int .u8 48)))),oh 30 27 true 29,oh 31 30 false 4,kG 32 30 false .gtr (.t 31) (.c (.d (.sc (.int .u8 57)))),og 33 27 true (.pick (.t 30) xT (.t 32)),kP 34 27 33,om 35 34,oh 36 35 true 4,kG 37 35 true .neq (.t 36) (.c (.d (.sc (.int .u8 46)))),kP 38 35 37,om 39 38,oh 40 39 true 4,kG 41 39 true .neq (.t 40) (.c (.d (.sc (.int .u8 95)))),kP 42 39 41,om 43 42,oh 44 43 true 4,kG 45 43 true .neq (.t 44) (.c (.d (.sc (.int .u8 45)))),kP 46 43 45] (kd 46 (kq [kM 2 xF] .ret) .skip))))) (fo [o5 47 .add 7 1,om 7 47]))))))))
 (kq [om 48 0,o0 49 (.bin .neq (.t 48) (.c (.d (.sc (.string ⟨#[]⟩))))),om 50 49,oh 51 50 true 0,og 52 50 true (.len 1 (.t 51)),kG 53 50 true .leq (.t 52) (xi 40),kP 54 50 53,om 55 54,oh 56 55 true 0,kG 57 55 true .neq (.t 56) (.c (.d (.sc (.string ⟨#[46]⟩)))),kP 58 55 57,om 59 58,oh 60 59 true 0,kG 61 59 true .neq (.t 60) (.c (.d (.sc (.string ⟨#[46,46]⟩)))),kP 62 59 61,om 2 62] .ret))),[.tmp 2]⟩
theorem X0:aN Tryz.prog [] 184=some Bk.erase:=by kernel_rfl
def jH:CF:=⟨64, (kq [ox 1 0,o7 2 0] (.seq (.block 0 (kq [o1 7 0 1,o3 8 7,o6 9 184 [.t 8],o0 10 (.not (.t 9)),om 6 10] (kd 6 (kz 2 5) (kq [o1 12 1 1,o3 13 12,o9 14 1 13,o5 15 .gtr 14 1000,om 11 15] (kd 11 (kz 2 4) (kq [o1 17 2 1,o3 18 17,o5 19 .lss 18 0,om 20 19,kF 21 20 false 2 1,kL 22 20 false 21,kG 23 20 false .gtr (.t 22) (xi 1099511627776),kR 24 20 23,om 16 24] (kd 16 (kz 2 2) (kq [o1 26 3 1,o3 27 26,o9 28 0 27,o5 29 .gtr 28 100,om 25 29] (kd 25 (kz 2 4) .skip))))))))) (.seq (kq [o1 30 3 1,o3 31 30,o9 32 0 31,o7 33 0] (.block 1 (.loop (.trim [1,33,31,32] (kq [o4 34 .lss 33 32] (.seq (kd 34 .skip (.exit 1)) (.seq (.block 2 (kq [om 35 33,oi 36 32 31 33,o2 37 32 36,kB 4 ej,om 3 35,o8 32 4 37] (.seq (kq [o2 38 32 4,o0 39 (.bld ej []),o0 40 (.eqa true eV false (.t 38) (.t 39))] (kd 40 (kz 2 1) .skip)) (.seq (.ops true [0,1,3,7,15,7,39,127,255,7,1023,2047,4095] [om 41 3,o5 42 .gtr 41 0,om 43 42,kF 44 43 true 3 1,kL 45 43 true 44,oh 46 43 true 3,kG 47 43 true .sub (.t 46) (xi 1),og 48 43 true (.iad 32 (.t 45) (.t 47)),og 49 43 true (.ld (some 32) (.t 48)),og 50 43 true (.ld (some 32) (.t 4)),og 51 43 true (.call (.fn 163) [.t 49,.t 50]),kG 52 43 true .geq (.t 51) (xi 0),kP 53 43 52]) (kd 53 (kz 2 9) .skip))))) (fo [o5 54 .add 33 1,om 33 54])))))))) (.seq (kq [o1 55 4 1,o3 56 55,o9 57 0 56,om 5 57] (.block 3 (kq [om 59 5,o5 60 .eql 59 0,om 58 60] (kd 58 (kz 2 1) (kq [om 62 5,o5 63 .gtr 62 400,om 61 63] (kd 61 (kz 2 4) .skip)))))) (kz 2 0))))),[.tmp 2]⟩
theorem xH:aN Tryz.prog [100001,300039] 126=some jH.erase:=by kernel_rfl
def Bx:CF:=⟨104, (kq [ox 1 0,kM 2 xF] (kq [o1 6 0 1,o3 7 6,o0 3 (.box (xi 0)),o8 1 3 7] (kq [o0 8 (.mkf 240 [] [.t 3]),om 4 8] (kq [o0 9 (.bld cQ []),kB 5 cQ,o8 33 5 9] (kq [om 10 4,o0 11 (.bsf 1 1 [(.d (.sc (.int .i64 0)))] [(0,1,(xi 1))]),o0 12 (.call (.val (.t 10)) [.t 11]),om 13 12,kF 14 13 false 34 1,kL 15 13 false 14,kG 16 13 false .eql (.t 15) (xi 0),kR 17 13 16,om 18 17,oh 19 18 true 4,og 20 18 true (.bsf 1 5 [(.d (.sc (.int .i64 0))),(.d (.sc (.int .i64 0))),(.d (.sc (.int .i64 0))),(.d (.sc (.int .i64 0))),(.d (.sc (.int .i64 0)))] [(0,1,(xi 2)),(1,1,(xi 3)),(2,1,(xi 4)),(3,1,(xi 5)),(4,1,(xi 6))]),og 21 18 true (.call (.val (.t 19)) [.t 20]),oh 22 18 true 21,kF 23 22 false 1 1,og 24 22 false (.ld (some 33) (.t 23)),og 25 22 false (.ld (some 33) (.t 5)),og 26 22 false (.eqa true cJ false (.t 24) (.t 25)),og 27 18 true (.pick (.t 22) xT (.t 26)),kP 28 18 27,om 29 28,oh 30 29 true 4,og 31 29 true (.bsf 1 1 [(.d (.sc (.int .i64 0)))] [(0,1,(xi 2))]),og 32 29 true (.call (.val (.t 30)) [.t 31]),oh 33 29 true 32,kF 34 33 false 35 1,og 35 33 false (.ld (some 33) (.t 34)),og 36 33 false (.ld (some 33) (.t 5)),og 37 33 false (.eqa true cJ false (.t 35) (.t 36)),oh 38 33 false 37,kF 39 38 true 68 1,kL 40 38 true 39,kG 41 38 true .eql (.t 40) (.c (.d (.sc (.string ⟨#[]⟩)))),og 42 33 false (.pick (.t 38) (.t 41) xF),og 43 29 true (.pick (.t 33) xT (.t 42)),kP 44 29 43,om 45 44,oh 46 45 true 4,og 47 45 true (.bsf 1 1 [(.d (.sc (.int .i64 0)))] [(0,1,(xi 3))]),og 48 45 true (.call (.val (.t 46)) [.t 47]),oh 49 45 true 48,kF 50 49 false 69 1,kL 51 49 false 50,kG 52 49 false .eql (.t 51) (xi 0),og 53 45 true (.pick (.t 49) xT (.t 52)),kP 54 45 53,om 55 54,oh 56 55 true 4,og 57 55 true (.bsf 1 1 [(.d (.sc (.int .i64 0)))] [(0,1,(xi 4))]),og 58 55 true (.call (.val (.t 56)) [.t 57]),oh 59 55 true 58,kF 60 59 false 70 1,kL 61 59 false 60,kG 62 59 false .eql (.t 61) (.c (.d (.sc (.string ⟨#[]⟩)))),og 63 55 true (.pick (.t 59) xT (.t 62)),kP 64 55 63,om 65 64,oh 66 65 true 4,og 67 65 true (.bsf 1 2 [(.d (.sc (.int .i64 0))),(.d (.sc (.int .i64 0)))] [(0,1,(xi 5)),(1,1,(xi 6))]),og 68 65 true (.call (.val (.t 66)) [.t 67]),oh 69 65 true 68,kF 70 69 false 71 1,og 71 69 false (.ld (some 33) (.t 70)),og 72 69 false (.ld (some 33) (.t 5)),og 73 69 false (.eqa true cJ false (.t 71) (.t 72)),oh 74 69 false 73,kF 75 74 true 104 1,og 76 74 true (.ld (some 33) (.t 75)),og 77 74 true (.ld (some 33) (.t 5)),og 78 74 true (.eqa true cJ false (.t 76) (.t 77)),og 79 69 false (.pick (.t 74) (.t 78) xF),og 80 65 true (.pick (.t 69) xT (.t 79)),kP 81 65 80,om 82 81,oh 83 82 true 4,og 84 82 true (.bsf 1 1 [(.d (.sc (.int .i64 0)))] [(0,1,(xi 5))]),og 85 82 true (.call (.val (.t 83)) [.t 84]),oh 86 82 true 85,kF 87 86 false 137 1,kL 88 86 false 87,og 89 86 false (.len 0 (.t 88)),kG 90 86 false .eql (.t 89) (xi 0),og 91 82 true (.pick (.t 86) xT (.t 90)),kP 92 82 91,om 93 92,oh 94 93 true 4,og 95 93 true (.bsf 1 5 [(.d (.sc (.int .i64 0))),(.d (.sc (.int .i64 0))),(.d (.sc (.int .i64 0))),(.d (.sc (.int .i64 0))),(.d (.sc (.int .i64 0)))] [(0,1,(xi 2)),(1,1,(xi 3)),(2,1,(xi 4)),(3,1,(xi 6)),(4,1,(xi 7))]),og 96 93 true (.call (.val (.t 94)) [.t 95]),oh 97 93 true 96,kF 98 97 false 138 1,kL 99 97 false 98,og 100 97 false (.len 0 (.t 99)),kG 101 97 false .eql (.t 100) (xi 0),og 102 93 true (.pick (.t 97) xT (.t 101)),kP 103 93 102,om 2 103] .ret))))),[.tmp 2]⟩
theorem Xd:aN Tryz.prog [100001,300009,100011,100020,100031,100047,100057,100067,100084,100095] 185=some Bx.erase:=by kernel_rfl
def By:CF:=⟨7, (kq [kM 3 xF] (kq [om 4 0,o3 5 1,o6 6 241 [.t 4,.t 5],om 3 6] .ret)),[.tmp 3]⟩
theorem Xe:aN Tryz.prog [] 240=some By.erase:=by kernel_rfl
def pk:CF:=⟨118, (kq [ox 1 0,o7 2 0] (.seq (.block 0 (kq [o1 7 0 1,o3 8 7,o5 9 .lss 8 1,om 10 9,kF 11 10 false 0 1,kL 12 10 false 11,kG 13 10 false .gtr (.t 12) (xi 7),kR 14 10 13,om 6 14] (kd 6 (kz 2 8) (kq [o2 16 139 1,o6 17 185 [.t 16],o0 18 (.not (.t 17)),om 15 18] (kd 15 (kz 2 1) (kq [o1 20 0 1,o3 21 20,o5 22 .eql 21 1,om 23 22,kF 24 23 true 34 1,kL 25 23 true 24,kG 26 23 true .lss (.t 25) (xi 1),oh 27 23 true 26,kF 28 27 false 34 1,kL 29 27 false 28,kG 30 27 false .gtr (.t 29) (xi 4),og 31 23 true (.pick (.t 27) xT (.t 30)),kP 32 23 31,om 19 32] (kd 19 (kz 2 8) (kq [o1 34 0 1,o3 35 34,o5 36 .eql 35 2,om 37 36,kF 38 37 true 68 1,kL 39 37 true 38,og 40 37 true (.call (.fn 184) [.t 39]),og 41 37 true (.not (.t 40)),kP 42 37 41,om 33 42] (kd 33 (kz 2 5) (kq [o1 44 69 1,o3 45 44,o5 46 .lss 45 0,om 47 46,kF 48 47 false 69 1,kL 49 47 false 48,kG 50 47 false .gtr (.t 49) (xi 511),kR 51 47 50,om 43 51] (kd 43 (kz 2 2) (kq [o1 53 70 1,o3 54 53,o9 55 1 54,o5 56 .gtr 55 65536,om 52 56] (kd 52 (kz 2 4) (kq [o1 58 0 1,o3 59 58,o5 60 .eql 59 5,om 61 60,kF 62 61 true 137 1,kL 63 61 true 62,og 64 61 true (.len 0 (.t 63)),kG 65 61 true .eql (.t 64) (xi 0),kP 66 61 65,om 57 66] (kd 57 (kz 2 1) (kq [o1 68 137 1,o3 69 68,o9 70 0 69,o5 71 .gtr 70 2000,om 67 71] (kd 67 (kz 2 4) .skip))))))))))))))))) (.seq (kq [o1 72 137 1,o3 73 72,o9 74 0 73,o7 75 0] (.block 1 (.loop (.trim [75,73,1,74] (kq [o4 76 .lss 75 74] (.seq (kd 76 .skip (.exit 1))
 (.seq (.block 2 (kq [oi 77 1 73 75,o3 78 77,om 4 78] (kq [om 79 4,o6 80 186 [.t 79],o0 81 (.not (.t 80))] (kd 81 (kz 2 3) .skip)))) (fo [o5 82 .add 75 1,om 75 82])))))))) (.seq (.block 3 (kq [o1 84 0 1,o3 85 84,o5 86 .eql 85 7,om 87 86,kF 88 87 true 138 1,kL 89 87 true 88,og 90 87 true (.len 0 (.t 89)),kG 91 87 true .eql (.t 90) (xi 0),kP 92 87 91,om 83 92] (kd 83 (kz 2 1) (kq [o1 94 138 1,o3 95 94,o9 96 0 95,o5 97 .gtr 96 400,om 93 97] (kd 93 (kz 2 4) .skip))))) (.seq (kq [o7 5 1] (.block 4 (.loop (.trim [5,1] (.seq (kq [om 98 5,o1 99 138 1,o3 100 99,o9 101 0 100,o4 102 .lss 98 101] (kd 102 .skip (.exit 4))) (.seq (.block 5 (.seq (.ops true [0,1,0,4,15,31,0,64,0,448,960,2047,4095] [o1 105 138 1,o3 106 105,om 107 5,o5 108 .sub 107 1,oi 109 33 106 108,o2 110 33 109,o1 111 138 1,o3 112 111,om 113 5,oi 114 33 112 113,o2 115 33 114,o6 116 52 [.t 110,.t 115],o5 117 .geq 116 0]) (kd 117 (kz 2 9) .skip))) (fo [om 103 5,o5 104 .add 103 1,om 5 104]))))))) (kz 2 0)))))),[.tmp 2]⟩
theorem Gd:aN Tryz.prog [100001] 127=some pk.erase:=by kernel_rfl
def AO:CF:=⟨16, (kq [kM 2 xF] (kq [om 3 0,o9 4 1 3,o5 5 .leq 4 1000,om 6 5,oh 7 6 true 0,og 8 6 true (.call (.fn 242) [.t 7,(.c (.d (.sc (.int .u8 10))))]),kG 9 6 true .lss (.t 8) (xi 0),kP 10 6 9,om 11 10,oh 12 11 true 0,og 13 11 true (.call (.fn 242) [.t 12,(.c (.d (.sc (.int .u8 0))))]),kG 14 11 true .lss (.t 13) (xi 0),kP 15 11 14,om 2 15] .ret)),[.tmp 2]⟩
theorem Ww:aN Tryz.prog [] 186=some AO.erase:=by kernel_rfl
def Bp:CF:=⟨7, (kq [ox 1 0,kM 2 xF] (kq [o1 3 0 1,o2 4 32 3,o0 5 (.bld ej []),o0 6 (.eqa true eV false (.t 4) (.t 5)),om 2 6] .ret)),[.tmp 2]⟩
theorem X5:aN Tryz.prog [100001,300005] 132=some Bp.erase:=by kernel_rfl
def B0:CF:=⟨19, (kq [ox 2 0,ox 3 1,o7 4 0] (.seq (.seq (.ops true [0,1,0,4,15,31] [o1 6 0 2,o0 7 (.sla 32 1 (.t 6) none none),o1 8 0 3,o0 9 (.sla 32 1 (.t 8) none none),o6 10 92 [.t 7,.t 9],om 5 10]) (kq [om 11 5,o5 12 .neq 11 0] (kd 12 (kq [om 13 5,om 4 13] .ret) .skip))) (kq [o1 14 32 2,o3 15 14,o1 16 32 3,o3 17 16,o6 18 93 [.t 15,.t 17],om 4 18] .ret))),[.tmp 4]⟩
theorem WH:aN Tryz.prog [100002,100003] 52=some B0.erase:=by kernel_rfl
def Da:CF:=⟨8, (kq [ox 2 0,ox 3 1,o7 4 0] (.seq (.ops true [0,0,3,7] [o0 5 (.sla 32 1 (.t 2) none none),o0 6 (.sla 32 1 (.t 3) none none),o6 7 92 [.t 5,.t 6],om 4 7]) .ret)),[.tmp 4]⟩
theorem YA:aN Tryz.prog [100002,100003] 163=some Da.erase:=by kernel_rfl
def po:CF:=⟨5, (kq [kB 2 ep] (kq [om 3 0,o0 4 (.bld fR [(0,1,xT),(2,1,(.t 3))]),o8 3 2 4] .ret)),[.cell 2 (some 3)]⟩
theorem Gf:aN Tryz.prog [300004] 190=some po.erase:=by kernel_rfl
def B4:CF:=⟨5, (kq [kB 2 ep] (kq [om 3 0,o0 4 (.bld fR [(1,1,(.t 3))]),o8 3 2 4] .ret)),[.cell 2 (some 3)]⟩
theorem WK:aN Tryz.prog [300004] 191=some B4.erase:=by kernel_rfl
def Bn:CF:=⟨11, (kq [kB 2 ep] (kq [om 6 0,o6 7 261 [.t 6],om 5 7,oe 8 5 0,oe 9 5 1,kB 3 ep,o8 3 3 8,om 4 9] (kq [o2 10 3 3,o8 3 2 10] .ret))),[.cell 2 (some 3)]⟩
theorem X3:aN Tryz.prog [] 193=some Bn.erase:=by kernel_rfl
def B8:CF:=⟨20, (kq [ox 1 0,kB 2 ep] (.seq (kq [o2 3 33 1,o6 4 132 [.t 3]] (kd 4 (.seq (.ops true [0,0,2,7,15,31,63] [o0 5 (.call (.fn 191) [(.c (.d (.sc (.string ⟨#[]⟩))))]),o1 6 32 1,o3 7 6,o6 8 193 [.t 7],o0 9 (.bsf 3 2 vZ [(0,3,(.t 5)),(3,3,(.t 8))]),o6 10 190 [.t 9],o8 3 2 10]) .ret) .skip)) (.seq (.ops true [0,1,3,7,0,16,63,127,255,511] [o1 11 0 1,o0 12 (.sla 32 1 (.t 11) none none),o0 13 (.b2s (.t 12)),o6 14 191 [.t 13],o1 15 32 1,o3 16 15,o6 17 193 [.t 16],o0 18 (.bsf 3 2 vZ [(0,3,(.t 14)),(3,3,(.t 17))]),o6 19 190 [.t 18],o8 3 2 19]) .ret))),[.cell 2 (some 3)]⟩
theorem WO:aN Tryz.prog [100001,100009,100018] 253=some B8.erase:=by kernel_rfl
def B9:CF:=⟨22, (kq [kB 2 ep] (kq [o6 6 190 [(.c (.nil 3))],kB 3 ep,o8 3 3 6] (.seq (kq [om 7 0,o9 8 0 7,o7 9 0] (.block 0 (.loop (.trim [9,3,7,2,8] (kq [o4 10 .lss 9 8] (.seq (kd 10 .skip (.exit 0)) (.seq (.block 1 (kq [oi 11 1 7 9,o3 12 11,om 5 12] (.ops true [0,1,0,4,12,31,63,127] [o1 13 2 3,o3 14 13,om 15 5,o6 16 191 [.t 15],o0 17 (.bsf 3 1 fR [(0,3,(.t 16))]),o0 18 (.app false 217 3 48 (.t 14) (.t 17)),o1 19 2 3,o8 1 19 18]))) (fo [o5 20 .add 9 1,om 9 20])))))))) (kq [o2 21 3 3,o8 3 2 21] .ret)))),[.cell 2 (some 3)]⟩
theorem WQ:aN Tryz.prog [100017] 258=some B9.erase:=by kernel_rfl
def Bo:CF:=⟨22, (kq [kB 2 ep] (kq [o6 6 190 [(.c (.nil 3))],kB 3 ep,o8 3 3 6] (.seq (kq [om 7 0,o9 8 0 7,o7 9 0] (.block 0 (.loop (.trim [9,3,7,2,8] (kq [o4 10 .lss 9 8] (.seq (kd 10 .skip (.exit 0)) (.seq (.block 1 (kq [oi 11 33 7 9,o2 12 33 11,kB 5 cQ,o8 33 5 12] (.ops true [0,1,0,4,12,31,63,127] [o1 13 2 3,o3 14 13,o2 15 33 5,o6 16 253 [.t 15],o0 17 (.bsf 3 1 fR [(0,3,(.t 16))]),o0 18 (.app false 217 3 48 (.t 14) (.t 17)),o1 19 2 3,o8 1 19 18]))) (fo [o5 20 .add 9 1,om 9 20])))))))) (kq [o2 21 3 3,o8 3 2 21] .ret)))),[.cell 2 (some 3)]⟩
theorem X4:aN Tryz.prog [100017] 254=some Bo.erase:=by kernel_rfl
end Go.Proofs.Q
