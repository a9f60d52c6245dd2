/- Lemmas. -/
import Derived.Test.YtellfinifjmloaaGreatDoorPAY
set_option linter.unusedVariables false
set_option linter.unusedSimpArgs false
namespace Go.Proofs.Q
open Go Go.Bb Go.RowKit Go.Proofs.Lg
open Go.Ab (D RD)
theorem oW(L:List Dg):(dV L).length=L.length*32:=by rw[wH,aQ,Ke]
theorem wG(A B:List Dg):dV (A++B)=dV A++dV B:=by simp only[wH,fp,s8]
theorem wI(d:Dg):dV [d]=(aP d).map .d:=by simp[wH]
theorem F3(L:List Dg)(n:Nat)(h:n≤L.length):(dV L).take (n*32)=dV (L.take n):=by
 conv=>lhs;rw[←ji n L,wG]
 rw[gj (by rw[oW,ck];omega),dq (by rw[oW,ck];omega)]
theorem IU(L:List Dg)(n:Nat)(h:n≤L.length):(dV L).drop (n*32)=dV (L.drop n):=by
 conv=>lhs;rw[←ji n L,wG]
 rw[gB,gC (by rw[oW,ck];omega),bm,oW,ck,qG h,jl,jY]
theorem zo{L:List Dg}{k:Nat}{d:Dg}(h:L[k]?=some d):((dV L).drop (k*32)).take 32=(aP d).map .d:=by
 obtain⟨hk,rfl⟩:=b9.1 h;rw[IU L k a8,kT hk];have:=F3 (L[k]::L.drop (k+1)) 1 (by rw[aY];omega);rw[sg]at this;rw[this,jj,uj,wI]
theorem Rt{L:List Dg}{k:Nat}(hk:k<L.length)(d:Dg):b8 (dV L) (k*32) 32 ((aP d).map .d)=some (dV (L.set k d)):=by
 unfold b8;rw[if_pos ⟨by rw[aQ,ba],by rw[oW];omega⟩,F3 L k a8,show k*32+32=(k+1)*32 by omega,IU L (k+1) a8,←wI,←wG,←wG];congr 2;rw[List.set_eq_take_append_cons_drop,if_pos hk];simp
theorem Je{α:Type}{sz:Nat}: ∀(rows:List (List α)),(∀r∈rows,r.length=sz)→chunk sz rows.length rows.flatten=rows
 |[],_=>rfl
 |r::rows,h=>by
  have a:=h r (by simp);show(r::rows).flatten.take sz::chunk sz rows.length ((r::rows).flatten.drop sz)=_;rw[fL,gj a8,dq a8,gB,gC a8,bm,a,jl,jY,Je rows fun x b=>h x (by simp[b])]
theorem Fa(L:List Dg):chunk 32 L.length ((L.map aP).flatten)=L.map aP:=by
 have:=Je (L.map aP) fun r a=>by obtain⟨x,_,rfl⟩:=bR.1 a;exact ba x
 rw[aQ]at this;exact this
theorem G6(s:List aa)(L:List Dg):dA (bA s 4) (dV L)=some ((L.map aP).flatten):=by
 rw[wH];exact zM s 3 _
def di:List Dg→List Dg
 |x::y::r=>if x=y then di (y::r)else x::di (y::r)
 |l=>l
theorem Fb: ∀{l:List Dg},(∀j,j+1<l.length→l[j]? ≠l[j+1]?)→di l=l
 |[],_=>rfl
 |[x],_=>rfl
 |x::y::r,h=>by
  rw[di,if_neg (by have:=h 0 (by simp);simpa using this),Fb fun j a=>by have:=h (j+1) (by simpa using a);simpa using this]
theorem Ji: ∀(A:List Dg) (y x:Dg),di (A++[y]++[x])=if x=y then di (A++[y])else di (A++[y])++[x]
 |[],y,x=>by
  show di [y,x]=_;by_cases h:x=y
  ·subst h;simp[di]
  ·rw[if_neg h,di,if_neg (Ne.symm h)];rfl
 |a::A,y,x=>by
  have d:=Ji A y x;cases A with
  |nil=>
   have c:di (y::[x])=if x=y then di [y]else di [y]++[x]:=d;show(if a=y then di (y::[x])else a::di (y::[x]))=if x=y then(if a=y then di [y]else a::di [y])else(if a=y then di [y]else a::di [y])++[x];rw[c];split<;>split<;>rfl
  |cons b A=>
   have c:di (b::(A++[y]++[x]))=if x=y then di (b::(A++[y]))else di (b::(A++[y]))++[x]:=d;show(if a=b then di (b::(A++[y]++[x]))else a::di (b::(A++[y]++[x])))=if x=y then(if a=b then di (b::(A++[y]))else a::di (b::(A++[y])))else(if a=b then di (b::(A++[y]))else a::di (b::(A++[y])))++[x];rw[c];split<;>split<;>rfl
theorem Jk{l:List Dg}{p:Nat}{y x:Dg}(c:l[p]?=some y)(b:l[p+1]?=some x):di (l.take (p+2))=if x=y then di (l.take (p+1))else di (l.take (p+1))++[x]:=by
 have a:l.take (p+1)=l.take p++[y]:=by rw[ui (b9.1 c).1];congr 2;exact(b9.1 c).2
 have d:l.take (p+2)=l.take p++[y]++[x]:=by rw[ui (b9.1 b).1,a];congr 2;exact(b9.1 b).2
 rw[a,d,Ji]
set_option maxHeartbeats 2000000 in
theorem S2{s:List aa}{i:Nat}{l:List Dg}(E:s[i]?=some (.vec 25 32 (dV l)))(hn:l.length≤1000000):b7 Tryz.prog 206 [.vec i l.length 32] s fun d s'=>bA s' 5 d=some (.sl 32 ((di l).map aP)):=by
 have A:=oW l;have hi:=(b9.1 E).1;refine b7.of (F:=sI) M5 (by simp[sI]) ?_;simp only[sI];by_cases h2:l.length<2
 ·have W:decide ((l.length:Int)<2)=true:=by simp;omega
  have hc:di l=l:=by
   match l,h2 with
   |[],_=>rfl
   |[x],_=>rfl
  rw[hc];exact bU (ga @W (ga @E (ga @A (ga @G6 (ga @Fa @wj))))) ab
 have W:decide ((l.length:Int)<2)=false:=by simp;omega
 refine aO (ga @W @wj) ab ?_;refine aZ.tr (fun(k:Nat)=>[(3,iN (k+1))]) (fun _=>s) (fun m k=>m+(k+1)=l.length∧ ∀j,j<k→l[j]? ≠l[j+1]?) (l.length-1) 0 aB aB rfl ⟨by omega,fun j v=>by omega⟩ ?_;rintro m k ⟨hm,hne⟩;by_cases hk:k+1<l.length
 ·have G:l[k]?=some l[k]:=bN a8;have H:l[k+1]?=some l[k+1]:=bN hk;have g:decide (((k+1:Nat):Int)<(l.length:Int))=true:=by simp;omega
  have Q:IntKind.i64.wrap (((k+1:Nat):Int)+1)=((k+1+1:Nat):Int):=bE a8 a8;have y:IntKind.i64.wrap (((k+1:Nat):Int)-1)=(k:Int):=bE a8 a8;have a0:=zo G;have O:=zo H;have R:k*32+32≤l.length*32:=by omega
  have S:(k+1)*32+32≤l.length*32:=by omega
  have p0:k<l.length:=by omega
  have r0:((k+1:Nat):Int)<(l.length:Int):=by omega
  have r1:((k+1:Nat):Int)≤(l.length:Int):=by omega
  repeat' first|refine ae (fun _=> ?_) fun _=> ?_|refine aL ?_|simp only[g,Q,y,E,A,hk,p0,a0,O,R,S,r0,r1,fC,wj,wy,qg,aH,simprocAttr,aA,aF,aE,aw]
  ·rename_i o;have C:l.take (k+1)=di (l.take (k+2)):=by
    rw[Jk G H,if_pos (by simpa using o),Fb];intro j v;rw[ck]at v;rw[qB a8,qB a8];exact hne j a8
   have a2:s=s.set i (.vec 25 32 (dV l)):=by
    apply iX;intro j;rw[eP];split
    ·rename_i e;subst e;first|exact E|(rw[if_pos hi,E])
    ·rfl
   clear a0 O R S Q y g
   refine aZ.tr (fun(b:Nat×Nat×List Dg)=>[(5,iN (b.1+1)),(3,iN b.2.1)]) (fun b=>s.set i (.vec 25 32 (dV b.2.2))) (fun m b=>m+(k+1+b.1+1)=l.length∧b.2.2.length=l.length∧b.2.1≤k+1+b.1∧b.2.2.take b.2.1=di (l.take (k+1+b.1+1))∧ ∀j,k+1+b.1≤j→b.2.2[j]?=l[j]?) (l.length-(k+2)) (0,k+1,l) aB aB a2 ⟨by dsimp only;omega,rfl,by dsimp only;omega,C,fun _ _=>rfl⟩ ?_
   rintro m2 ⟨c,a,L⟩ ⟨Y,n,X,u,f⟩;dsimp only at Y n X u f⊢;have w:(s.set i (.vec 25 32 (dV L)))[i]?=some (.vec 25 32 (dV L)):=by rw[eP];simp[hi]
   have z:(dV L).length=l.length*32:=by rw[oW,n]
   by_cases M:k+1+c+1<l.length
   ·have G:L[k+1+c]?=some l[k+1+c]:=by rw[f _ a8];exact bN a8
    have H:L[k+1+c+1]?=some l[k+1+c+1]:=by rw[f _ a8];exact bN M
    have f0:l[k+1+c]?=some l[k+1+c]:=bN a8;have f1:l[k+1+c+1]?=some l[k+1+c+1]:=bN M;have J:=Jk f0 f1;have a0:=zo G;have O:((dV L).drop ((k+1+(c+1))*32)).take 32=(aP l[k+1+c+1]).map .d:=zo H;have R:(k+1+c)*32+32≤l.length*32:=by omega
    have S:(k+1+(c+1))*32+32≤l.length*32:=by omega
    have g:decide (((c+1:Nat):Int)<((l.length-(k+1):Nat):Int))=true:=by simp;omega
    have Q:IntKind.i64.wrap (((c+1:Nat):Int)+1)=((c+1+1:Nat):Int):=bE a8 a8;have y:IntKind.i64.wrap (((c+1:Nat):Int)-1)=(c:Int):=bE a8 a8;have a5:IntKind.i64.wrap ((a:Int)+1)=((a+1:Nat):Int):=bE a8 a8;have p0:c<l.length-(k+1):=by omega
    have p1:c+1<l.length-(k+1):=by omega
    have p2:k+1+(l.length-(k+1))≤l.length:=by omega
    have p3:a<l.length:=by omega
    have t:=Rt (L:=L) (k:=a) a8 l[k+1+c+1];have q3:a*32+32≤l.length*32:=by omega
    unfold b8 at t;rw[if_pos ⟨by rw[aQ,ba],by omega⟩,bj]at t;have D:=aJ t
    repeat' first|refine ae (fun _=> ?_) fun _=> ?_|refine aL ?_|simp only[g,Q,y,a5,w,z,p0,p1,p2,p3,a0,O,R,S,q3,D,List.set_set,fC,wj,wy,qg,aH,simprocAttr,aA,aF,aE,aw]
    ·rename_i q;have q: ¬l[k+1+c+1]=l[k+1+c]:=by simpa using q
     refine⟨m2-1,(c+1,a+1,L.set a l[k+1+c+1]),by omega,⟨rfl,rfl⟩,rfl,by dsimp only;omega,by simpa using n,by dsimp only;omega,?_,fun j v=> ?_⟩
     ·show(L.set a l[k+1+c+1]).take (a+1)=di (l.take (k+1+c+2));rw[J,if_neg q,←u,ui (by simp;omega),List.getElem_set_self,List.take_set_of_le (bk _)]
     ·dsimp only at v⊢;rw[bC a8];exact f j a8
    ·rename_i B;have B:l[k+1+c+1]=l[k+1+c]:=by simpa using B
     refine⟨m2-1,(c+1,a,L),by omega,⟨rfl,rfl⟩,rfl,by dsimp only;omega,n,by dsimp only;omega,?_,fun j v=>f j (by dsimp only at v;omega)⟩;show L.take a=di (l.take (k+1+c+2));rw[J,if_pos B];exact u
   ·have g:decide (((c+1:Nat):Int)<((l.length-(k+1):Nat):Int))=false:=by simp;omega
    have r0:(a:Int)<(l.length:Int):=by omega
    have r1:(a:Int)≤(l.length:Int):=by omega
    have K:l.take (k+1+c+1)=l:=dq a8;rw[K]at u;have N:a≤L.length:=by omega
    obtain⟨Z,P⟩: ∃Z,Z=(dV L).take (a*32)++(List.replicate (l.length-a) ((aP .zero).map AV.d)).flatten++(dV L).drop (a*32+(l.length-a)*32):=⟨_,rfl⟩
    have I:vO (s.set i (.vec 25 32 (dV L))) 32 ((aP .zero).map AV.d) (.vwn i l.length a (l.length-a) 32)=some (.d (.sc (.tuple #[])),s.set i (.vec 25 32 Z)):=by
     show((gx l.length (s.set i (.vec 25 32 (dV L)))[i]?).bind fun p=>if(32=32∧p.1=32∧((aP .zero).map AV.d).length=32)∧0<l.length-a∧a+(l.length-a)≤l.length then some (AV.d (.sc (.tuple #[])),(s.set i (.vec 25 32 (dV L))).set i (.vec (lY (s.set i (.vec 25 32 (dV L)))[i]?) 32 (p.2.take (a*32)++(List.replicate (l.length-a) ((aP .zero).map AV.d)).flatten++p.2.drop (a*32+(l.length-a)*32))))else none)=_
     have a3:gx l.length (s.set i (.vec 25 32 (dV L)))[i]?=some (32,dV L):=by
      rw[w];show(if _ then _ else _)=_;rw[if_pos ⟨by omega,z⟩]
     rw[a3,dP,if_pos ⟨⟨rfl,rfl,by simp[ba]⟩,by omega,by omega⟩,List.set_set,P,w];rfl
    have U:Z.take (a*32)=dV (L.take a):=by
     rw[P,bj,gj (by rw[ck,oW];omega),se,Nat.min_self,F3 L a N]
    have T:Z.length=l.length*32:=by
     rw[P,aR,aR,ck,aA,oW,Go.Ab.flatten_len (sz:=32) _ (fun r hr=>by obtain⟨_,rfl⟩:=List.mem_replicate.1 hr;simp[ba]),fN,n];omega
    have a4:(s.set i (.vec 25 32 Z))[i]?=some (.vec 25 32 Z):=by rw[eP];simp[hi]
    clear P;have r2:a≤l.length:=by omega
    have V:chunk 32 a (((L.take a).map aP).flatten)=(L.take a).map aP:=by
     have:=Fa (L.take a);rw[ck,qG N]at this;exact this
    rw[←u];have r3:(0:Int)<(l.length:Int):=by omega
    repeat' first|refine ae (fun _=> ?_) fun _=> ?_|refine aL ?_|simp only[g,w,z,r0,r1,r2,r3,I,a4,T,U,V,G6,fC,lQ,Nat.sub_zero,pR,jY,wj,wy,qg,aH,simprocAttr,aA,aF,aE,aw]
  ·rename_i o;exact⟨m-1,k+1,by omega,rfl,by omega,fun j v=>by
    rcases Nat.lt_succ_iff_lt_or_eq.1 v with h|rfl
    ·exact hne j h
    ·rw[G,H];intro e;exact absurd (aJ e).symm (by simpa using o)⟩
 ·have g:decide (((k+1:Nat):Int)<(l.length:Int))=false:=by simp;omega
  have hc:di l=l:=Fb fun j v=>hne j a8;rw[hc];exact bU (ga @g (ga @E (ga @A (ga @G6 (ga @Fa @wj))))) ab
abbrev rB(x:UInt8):List D:=[.sc (.int .u8 x.toNat)]
theorem F0: ∀l:List UInt8,gH ((l.map rB).flatten.map .d)=some l
 |[]=>rfl
 |x::l=>by
  have h:=F0 l;have a:=x.toNat_lt;simp only[bV,fL,mO,bm,gH,qO,h];rw[if_pos a8];simp
theorem Rp(b:bh):Go.Bb.bytesRow b=b.data.toList.map rB:=rfl
theorem a03{n:Int}(h:0≤n∧n<256):[D.sc (.int .u8 n)]=rB (UInt8.ofNat n.toNat):=by
 simp only[rB];congr 4;have:n.toNat<256:=by omega
 rw[UInt8.toNat_ofNat'];omega
def gV(s:bh):List UInt8:=s.data.toList++[128]++List.replicate ((120-(s.size+1) % 64) % 64) 0++[7,6,5,4,3,2,1,0].map fun i=>UInt8.ofNat (ml s i).toNat
theorem PL: ∀n,(oI n).data.toList=List.replicate n 0
 |0=>rfl
 |n+1=>by
  rw[oI,w9,pO,PL n,List.replicate_succ'];rfl
theorem Ki(s:bh): ∀(l:List Nat) (b:bh),(l.foldl (fun out i=>out++sn (ml s i)) b).data.toList=b.data.toList++l.map fun i=>UInt8.ofNat (ml s i).toNat
 |[],b=>by simp
 |i::l,b=>by
  rw[gD,Ki s l,w9,pO,bV,bj];rfl
theorem Gl(s:bh):(jO s).data.toList=gV s:=by
 unfold jO gV;rw[Ki,w9,w9,pO,pO,PL];rfl
theorem MY(s:bh):(gV s).length=s.size+1+(120-(s.size+1) % 64) % 64+8:=by
 rw[←Gl,fD,MZ]
theorem MX(s:bh){m:Nat}(h:m≤s.size):(gV s).drop m=s.data.toList.drop m++[128]++List.replicate ((120-(s.size+1) % 64) % 64) 0++[7,6,5,4,3,2,1,0].map fun i=>UInt8.ofNat (ml s i).toNat:=by
 have a:s.data.toList.length=s.size:=fD s;unfold gV;rw[EL (by simp;omega),EL (by simp;omega),EL a8]
def lW(s:bh)(k:Nat):bh:=⟨(((gV s).drop (64*k)).take 64).toArray⟩
theorem ET{a b:ByteArray}(h:a.data.toList=b.data.toList):a=b:=by
 cases a;cases b;simp only[ByteArray.mk.injEq];exact Array.toList_inj.1 h
theorem Fp(b:ByteArray)(i j:Nat):(b.extract i j).data.toList=(b.data.toList.drop i).take (j-i):=by
 rw[ByteArray.data_extract,Array.toList_extract,List.extract_eq_take_drop]
theorem Rg(s:bh)(k:Nat):(jO s).extract (64*k) (64*k+64)=lW s k:=by
 refine ET ?_;rw[Fp,Gl,show 64*k+64-64*k=64 by omega];rfl
theorem Ri(s:bh){k:Nat}(h:64*k+64≤s.size):s.extract (64*k) (64*k+64)=lW s k:=by
 have a:s.data.toList.length=s.size:=fD s;refine ET ?_;rw[Fp,show 64*k+64-64*k=64 by omega];show _=((gV s).drop (64*k)).take 64;rw[MX s a8,bj,bj,gj (by simp;omega)]
theorem Rf(s:bh){m k:Nat}(h:64*m≤s.size)(l:List UInt8)(a:l=(gV s).drop (64*m)):(⟨((l.take (64*k+64)).drop (64*k)).toArray⟩:ByteArray)=lW s (m+k):=by
 refine ET ?_;show(l.take (64*k+64)).drop (64*k)=((gV s).drop (64*(m+k))).take 64;rw[a,List.drop_take,ue,show 64*k+64-64*k=64 by omega,show 64*m+64*k=64*(m+k) by omega]
theorem a3E(s:bh):nv s=(List.range ((gV s).length/64)).foldl (fun h k=>iu h (lW s k)) iS:=by
 have b:(jO s).size=(gV s).length:=by rw[←Gl,fD]
 have a:(fun(h:List Int) (k:Nat)=>iu h ((jO s).extract (64*k) (64*k+64)))=fun h k=>iu h (lW s k):=funext fun h=>funext fun k=>by rw[Rg]
 have h:=OX s (jO s) rfl;rw[b]at h;rw[h,a]
set_option maxHeartbeats 4000000 in
theorem a3j(m:bh)(hm:m.size≤1000000000)(i base:Nat)(S:Nat→List aa→Prop)
  (M: ∀k s o,S k s→S k (s++[o])) (A: ∀k s j e z n n',S k s→base≤j→s[j]?=some (.row e z n)→S k (s.set j (.row e z n'))) (X: ∀k s,S k s→base≤s.length)
  (hround: ∀(k:Nat) (s:List aa) (K:AV→List aa→Prop),k<(gV m).length/64→S k s→(∀G,S (k+1) G→(∀j o,base≤j→s[j]?=some o→G[j]?=some o)→K (.d (dB true)) G)→iD Tryz.prog i [.d (dS (lW m k))] s K)
  (s:List aa) (h0:S 0 s):b7 Tryz.prog 273 [.yld i,.d (.ref [dS m])] s fun d G=>d=vT∧S ((gV m).length/64) G:=by
 obtain⟨W,hW⟩: ∃W,W=m.size/64:=⟨_,rfl⟩
 have q0:((64:Int)≠0)=True:=by simp
 have q1:IntKind.i64.wrap (Int.tdiv (m.size:Int) 64)=(W:Int):=bE (by rw[Int.tdiv_eq_ediv_of_nonneg a8];omega) a8;have q2:IntKind.i64.wrap ((W:Int)*64)=((64*W:Nat):Int):=bE a8 a8;refine b7.of (F:=Dd) YD (by simp[Dd]) ?_;simp only[Dd];refine aO (ga @q0 (ga @q1 (ga @q2 @wj))) ab ?_
 refine aZ.overI (List.range W) (fun k (b:List aa)=>[(4,iN (64*k))]) (fun _ b=>b) (fun _ _=>()) () (fun k b=>S k b) s (by simp;omega) aB aB rfl rfl h0 (fun k s x hg hk C hw c a=> ?_) (fun s C c a=> ?_)
 ·rw[ew]at hk;have g:decide (((64*k:Nat):Int)<((64*W:Nat):Int))=true:=by simp;omega
  have H:IntKind.i64.wrap (((64*k:Nat):Int)+64)=((64*k+64:Nat):Int):=bE a8 a8;have q:(((64*k:Nat):Int)≤((64*k+64:Nat):Int))=True:=by simp;omega
  have I:(((64*k+64:Nat):Int)≤(m.size:Int))=True:=by simp;omega
  have J:=Ri m (k:=k) a8;clear h0 q0 q1 q2
  repeat' first|refine ae (fun _=> ?_) fun _=> ?_|refine aq.yld (hround k _ _ (by have:=MY m;omega) a (fun G h' a4=> ?_))|refine ay (ga @g (ga @H (ga @q (ga @I (ga @J @wj))))) ab ?_|exact ax (ga @g (ga @H (ga @q (ga @I (ga @J @wj))))) ab|fail
  exact⟨G,by rw[Nat.mul_add],rfl,h'⟩
 ·have g:decide (((64*W:Nat):Int)<((64*W:Nat):Int))=false:=by simp
  have q:(((64*W:Nat):Int)≤(m.size:Int))=True:=by simp;omega
  rw[ew]at a;clear h0;obtain⟨p,Q⟩: ∃p,p=m.data.toList.drop (64*W):=⟨_,rfl⟩
  have Y:m.data.toList.length=m.size:=fD m;have hl0l:p.length=m.size-64*W:=by rw[Q,aA,Y]
  have hb:Go.Bb.bytesRow (m.extract (64*W) m.size)=p.map rB:=by
   rw[Rp,Fp,dq (by rw[aA,Y];omega),Q]
  have Z:(m.extract (64*W) m.size).size=p.length:=by rw[ByteArray.size_extract,hl0l];omega
  have a0:(p.length≤140737488355328)=True:=by simp;omega
  have l:=room_le (n:=p.length+1) (b:=1) a8 a8;have h128:p.map rB++[[D.sc (.int .u8 128)]]=(p++[128]).map rB:=by rw[fp];rfl
  refine aO (ga @g (ga @q (ga @hb (ga @Z (ga @a0 (ga @l (ga @h128 @wj))))))) ab ?_;have O:=M _ _ (aa.row 5 1 (p.length+1)) a;have y:(s++[aa.row 5 1 (p.length+1)])[s.length]?=some (.row 5 1 (p.length+1)):=by simp
  have B:=X _ _ a;obtain⟨j,f⟩: ∃j,j=s.length:=⟨_,rfl⟩
  rw[←f]at y B⊢;generalize s++[aa.row 5 1 (p.length+1)]=s1 at O y⊢;obtain⟨T,R⟩: ∃T,T=p++[128]:=⟨_,rfl⟩
  have hl1l:T.length=p.length+1:=by rw[R];simp
  rw[←R];rw[←hl1l]at y;clear c a hb Z l h128 C g q f M;obtain⟨z,hz⟩: ∃z,z=(120-(m.size+1) % 64) % 64:=⟨_,rfl⟩
  refine aZ.overI (List.replicate z (0:UInt8)) (fun k (b:List UInt8×List aa)=>[(5,.tsl j 1 (b.1.map rB))]) (fun _ b=>b.2) (fun r b=>b.1++r) (T++List.replicate z 0) (fun k b=>S W b.2∧b.2[j]?=some (.row 5 1 b.1.length)∧b.1.length=T.length+k) (T,s1) (by simp;omega) aB aB rfl rfl ⟨O,y,rfl⟩ (fun k b x hg hk C hw c a=> ?_) (fun b C c a=> ?_)
  ·obtain⟨b,s⟩:=b;obtain⟨a,f,t⟩:=a;dsimp only at c a f t;rw[fN]at hk;have hx:x=0:=by rw[oL,if_pos hk]at hg;simpa using hg.symm
   subst hx;have t1:Int.tmod (b.length:Int) 64=((b.length % 64:Nat):Int):=by rw[wb a8];omega
   have t2:(((b.length % 64:Nat):Int) !=56)=true:=by simp;omega
   have l:=room_le (n:=b.length+1) (b:=1) a8 a8;have E:ir 5 1 b.length s[j]?=true:=by rw[f];simp[ir]
   have hn:=A _ _ j _ _ _ (b.length+1) a B f;have P:=(b9.1 f).1;refine aO (ga @q0 (ga @t1 (ga @t2 (ga @l (ga @E @wj))))) ab ?_;refine⟨(b++[0],s.set j (.row 5 1 (b.length+1))),?_,rfl,?_,hn,?_,?_⟩
   ·rw[fp];rfl
   ·rw[c,bj];rfl
   ·rw[fx P,aR];rfl
   ·simp;omega
  ·obtain⟨N,s⟩:=b;obtain⟨a,f,t⟩:=a;dsimp only at c a f t;rw[fN]at t;rw[bg]at c;have t1:Int.tmod (N.length:Int) 64=((N.length % 64:Nat):Int):=by rw[wb a8];omega
   have t2:(((N.length % 64:Nat):Int) !=56)=false:=by simp;omega
   refine aO (ga @q0 (ga @t1 (ga @t2 @wj))) ab ?_;obtain⟨L,hL⟩: ∃L:List Nat,L=[7,6,5,4,3,2,1,0]:=⟨_,rfl⟩
   have a2:L.length=8:=by rw[hL];rfl
   have a3: ∀k x,L[k]?=some x→x+k=7:=by
    subst hL;intro k x h
    match k,h with
    |0,h|1,h|2,h|3,h|4,h|5,h|6,h|7,h=>simp at h;omega
    |k+8,h=>simp at h
   have w:(gV m).drop (64*W)=N++L.map fun i=>UInt8.ofNat (ml m i).toNat:=by
    rw[MX m a8,←Q,←R,←hz,c,hL]
   have a6:N.length≤1000:=by rw[t,hl1l,hl0l];omega
   clear c O y t1 t2 hL
   refine aZ.overI L (fun k (b:List UInt8×List aa)=>[(6,.d (.sc (.int .i64 (56-8*(k:Int))))),(5,.tsl j 1 (b.1.map rB))]) (fun _ b=>b.2) (fun r b=>b.1++r.map fun i=>UInt8.ofNat (ml m i).toNat) ((gV m).drop (64*W)) (fun k b=>S W b.2∧b.2[j]?=some (.row 5 1 b.1.length)∧b.1.length=N.length+k) (N,s) a8 aB aB rfl w ⟨a,f,rfl⟩ (fun k b x hg hk C hw c a=> ?_) (fun b C c a=> ?_)
   ·obtain⟨b,s⟩:=b;obtain⟨a,f,u⟩:=a;dsimp only at c a f u;have hx:=a3 k x hg;have g:decide (56-8*(k:Int)≥0)=true:=by simp;omega
    have H:((0:Int)≤56-8*(k:Int))=True:=by simp;omega
    have q:(56-8*(k:Int)).toNat=8*x:=by omega
    have I:IntKind.i64.wrap (56-8*(k:Int)-8)=56-8*((k+1:Nat):Int):=by
     simp only[IntKind.wrap,IntKind.bits,IntKind.signed];by_cases h7:k=7
     ·subst h7;rfl
     ·have:(56-8*(k:Int)-8) % 2^64=56-8*(k:Int)-8:=by omega
      simp only[this];simp;omega
    obtain⟨v,hv⟩: ∃v,v=IntKind.u8.wrap ((IntKind.u64.wrap (IntKind.u64.wrap m.size*8)).fdiv (2^min (8*x) (IntKind.u64.bits))):=⟨_,rfl⟩
    have a1:v=ml m x:=hv;have J:b.map rB++[[D.sc (.int .u8 v)]]=(b++[UInt8.ofNat (ml m x).toNat]).map rB:=by
     rw[fp,a03 (by rw[a1];exact yA _),a1];rfl
    have l:=room_le (n:=b.length+1) (b:=1) a8 a8;have E:ir 5 1 b.length s[j]?=true:=by rw[f];simp[ir]
    have hn:=A _ _ j _ _ _ (b.length+1) a B f;have P:=(b9.1 f).1;rw[bV]at c;clear w
    repeat' first|simp only[←hv]|refine ae (fun _=> ?_) fun _=> ?_|refine ay (ga @g (ga @H (ga @q (ga @I (ga @J (ga @l (ga @E @wj))))))) ab ?_|exact ax (ga @g (ga @H (ga @q (ga @I (ga @J (ga @l (ga @E @wj))))))) ab|fail
    refine⟨(_,s.set j (.row 5 1 (b.length+1))),rfl,rfl,?_,hn,?_,?_⟩
    ·rw[c,bj];rfl
    ·rw[fx P,aR];rfl
    ·simp;omega
   ·obtain⟨b,s⟩:=b;obtain⟨a,f,u⟩:=a;dsimp only at c a f u;rw[e8,bg]at c;have g:decide (56-8*((L.length:Nat):Int)≥0)=false:=by rw[a2];decide
    have b2:=MY m;have a9:b.length+64*W=(gV m).length:=by rw[←c,aA];omega
    obtain⟨U,b1⟩: ∃U,U=b.length/64:=⟨_,rfl⟩
    have a7:b.length=64*U:=by omega
    have a5:(gV m).length/64=W+U:=by omega
    clear w f A B;rw[a5];refine aO (ga @g @wj) ab ?_;refine aZ.overI (List.range U) (fun k (b:List aa)=>[(7,iN (64*k))]) (fun _ b=>b) (fun _ _=>()) () (fun k b=>S (W+k) b) s (by simp;omega) aB aB rfl rfl a (fun k s x hg hk C hw V a=> ?_) (fun s C V a=> ?_)
    ·rw[ew]at hk;have g:decide (((64*k:Nat):Int)<(b.length:Int))=true:=by simp;omega
     have H:IntKind.i64.wrap (((64*k:Nat):Int)+64)=((64*k+64:Nat):Int):=bE a8 a8;have q:(((64*k:Nat):Int)≤((64*k+64:Nat):Int))=True:=by simp;omega
     have I:(((64*k+64:Nat):Int)≤(b.length:Int))=True:=by simp;omega
     have J:=Rf m (m:=W) (k:=k) a8 b c.symm;clear V hg C hw
     repeat' first|simp only[←List.map_take,←List.map_drop]|refine ae (fun _=> ?_) fun _=> ?_|refine aq.yld (hround (W+k) _ _ a8 a (fun G h' a4=> ?_))|refine ay (ga @g (ga @H (ga @q (ga @I (ga @J (ga @F0 @wj)))))) ab ?_|exact ax (ga @g (ga @H (ga @q (ga @I (ga @J (ga @F0 @wj)))))) ab|fail
     exact⟨G,by rw[Nat.mul_add],rfl,h'⟩
    ·have g:decide (((64*U:Nat):Int)<(b.length:Int))=false:=by simp;omega
     rw[ew]at a;refine aO (ga @g @wj) ab ?_
     all_goals exact a
theorem z7(P:Program)(l:List CO)(K:Fr→List aa→List Nat→Prop)(a:List Nat)(fr:Fr)(s:List aa)(m t:Nat):dv P l K a fr (some t) m s (.d (.sc .nilFunc))=bK P l K (m::a) ((t,.d (.sc .nilFunc))::fr) s:=propext dp
theorem a3k(m:bh)(s:List aa):b7 Tryz.prog 215 [.d (dS m)] s fun d a=>d= .clo 273 [] [.d (.ref [dS m])]∧a=s:=by
 refine b7.of (F:=Dc) YC (by simp[Dc]) ?_;simp only[Dc];exact bU (ga @z7 @wj) ab
 all_goals first|rfl|exact⟨rfl,rfl⟩
def lD(m:bh)(k:Nat):List Int:=(List.range k).foldl (fun h k=>iu h (lW m k)) iS
theorem HA(m:bh): ∀k,(lD m k).length=8
 |0=>rfl
 |k+1=>by rw[lD,List.range_succ,List.foldl_append,gD,uf,iu,wA];exact HA m k
theorem a3y(m:bh)(k:Nat):lD m (k+1)=iu (lD m k) (lW m k):=by
 rw[lD,List.range_succ,List.foldl_append];rfl
def lA:CC:=fo [om 4 12]
def lB:CC:= .block 1 (fo [o0 13 (.ld (some 8) (.t 3)),om 14 4,o0 15 (.call (.fn 216) [(.t 13),(.t 14)]),oN (.st 8 (.t 3) (.t 15))])
def nN(i:Nat)(fr:Fr)(m:bh)(k:Nat)(s:List aa):Prop:=(s[0]?=some (.cells ((aP .zero).map .d))∧s[1]?=some (.cells ((bt .u32 (lD m k)).map .d)))∧s[i]?=some (.loop ⟨.ready,none,fr,[12],38,lA,lB⟩)
theorem nN.app{i:Nat}{fr:Fr}{m:bh}{k:Nat}{s:List aa}(h:nN i fr m k s)(o:aa):nN i fr m k (s++[o]):=
 ⟨⟨bW h.1.1 _,bW h.1.2 _⟩,bW h.2 _⟩
theorem nN.set{i:Nat}{fr:Fr}{m:bh}{k:Nat}{s:List aa}(h:nN i fr m k s){j:Nat}{e z n d:Nat}(f:i+1≤j)(hc:s[j]?=some (.row e z n)):nN i fr m k (s.set j (.row e z d)):=by
 obtain⟨⟨a,b⟩,c⟩:=h;refine⟨⟨?_,?_⟩,?_⟩
 ·rw[bC (by rintro rfl;rw[hc]at a;cases a)];exact a
 ·rw[bC (by rintro rfl;rw[hc]at b;cases b)];exact b
 ·rw[bC a8];exact c
theorem nN.len{i:Nat}{fr:Fr}{m:bh}{k:Nat}{s:List aa}(h:nN i fr m k s):i+1≤s.length:=(b9.1 h.2).1
theorem Rh{m:bh}{k:Nat}(h:k<(gV m).length/64):(lW m k).size=64:=by
 rw[←fD];show(((gV m).drop (64*k)).take 64).length=64;rw[ck,aA];omega
set_option maxHeartbeats 2000000 in
theorem a3f{i:Nat}{fr:Fr}{m:bh}{k:Nat}{s:List aa}(hi:1<i)(f:Bb.look fr 3=some (.ptr 1 0))(h:nN i fr m k s)(hk:k<(gV m).length/64){K:AV→List aa→Prop}
  (y: ∀n,nN i fr m (k+1) n→(∀j o,i+1≤j→s[j]?=some o→n[j]?=some o)→K (.d (dB true)) n):iD Tryz.prog i [.d (dS (lW m k))] s K:=by
 have v:=h.len;obtain⟨⟨r,t⟩,e⟩:=h;have cc:=a3m (lD m k) (lW m k) (HA m k) (Rh hk);unfold iD;rw[e];refine⟨rfl,rfl,?_⟩;simp only[lA,lB,putL,oM,List.zip_nil_right]
 repeat' first|simp only[dC]|refine ae (fun _=> ?_) fun _=> ?_|refine ay @wj ab ?_|exact ax @wj ab|fail
 unfold kN;rw[e];refine⟨rfl,?_⟩;have t0:(s.set i (.loop {({st:= .ready,pend:=none,fr:=fr,ps:=[12],N:=38,ca:=lA,cb:=lB}:je)with st:= .busy}))[0]?=some (.cells ((aP .zero).map .d)):=by
  rw[bC a8];exact r
 have p:(s.set i (.loop {({st:= .ready,pend:=none,fr:=fr,ps:=[12],N:=38,ca:=lA,cb:=lB}:je)with st:= .busy}))[1]?=some (.cells ((bt .u32 (lD m k)).map .d)):=by
  rw[bC a8];exact t
 have q:(s.set i (.loop {({st:= .ready,pend:=none,fr:=fr,ps:=[12],N:=38,ca:=lA,cb:=lB}:je)with st:= .busy}))[i]?=some (.loop ⟨.busy,none,fr,[12],38,lA,lB⟩):=by
  rw[eP,if_pos rfl,if_pos a8]
 have a: ∀j o,i+1≤j→s[j]?=some o→(s.set i (.loop {({st:= .ready,pend:=none,fr:=fr,ps:=[12],N:=38,ca:=lA,cb:=lB}:je)with st:= .busy}))[j]?=some o:=fun j o u hc=>by
  rw[bC a8];exact hc
 generalize(s.set i (.loop {({st:= .ready,pend:=none,fr:=fr,ps:=[12],N:=38,ca:=lA,cb:=lB}:je)with st:= .busy}))=T at t0 p q a⊢;have b:=HA m k;have w:(bt .u32 (lD m k)).take 8=bt .u32 (lD m k):=dq (by rw[ed,b];decide);have c: ∀vs:List AV,vs.length=8→b8 ((bt .u32 (lD m k)).map .d) 0 8 vs=some vs:=fun vs h=>lq (k:= .u32) b h
 have l:(iu (lD m k) (lW m k)).length=8:=by rw[iu,wA];exact b
 clear r t e
 repeat' first|refine ae (fun _=> ?_) fun _=> ?_|refine aL ?_|refine aq.data (cc) rfl ?_|simp only[dC,f,p,w,c,l,b,ed,aQ,wj,wy,qg,aH,reduceCtorEq,reduceIte,Nat.reduceAdd,Nat.reduceMul,Nat.reduceEqDiff,Nat.reduceLT,Nat.reduceLeDiff,Nat.reduceSub,aA,aF,aE,aw]
 unfold mV;have g:=(b9.1 p).1;have x:(T.set 1 (aa.cells (List.map AV.d (bt .u32 (iu (lD m k) (lW m k))))))[i]?=some (.loop ⟨.busy,none,fr,[12],38,lA,lB⟩):=by
  rw[bC a8];exact q
 rw[x];refine y _ ⟨⟨?_,?_⟩,?_⟩ fun j o u hc=> ?_
 ·rw[bC a8,bC a8];exact t0
 ·rw[bC a8,fx g,a3y]
 ·rw[fx (by simp;exact(b9.1 q).1)]
 ·rw[bC a8,bC a8];exact a j o u hc
theorem a3e{fr:Fr}{s:List aa}{m:bh}(hm:m.size≤1000000000)(c:Bb.look fr 3=some (.ptr 1 0))(f:s[0]?=some (.cells ((aP .zero).map .d)))(a:s[1]?=some (.cells ((bt .u32 iS).map .d))):
  lN (eu Tryz.prog) Tryz.prog (.clo 273 [] [.d (.ref [dS m])]) [.yld s.length] (s++[.loop ⟨.ready,none,fr,[12],38,lA,lB⟩]) fun _ b=>(b[0]?=some (.cells ((aP .zero).map .d))∧b[1]?=some (.cells ((bt .u32 (nv m)).map .d)))∧b[s.length]?=some (.loop ⟨.ready,none,fr,[12],38,lA,lB⟩):=by
 have hi:1<s.length:=(b9.1 a).1;refine lN.fn (b7.mono (a3j m hm s.length (s.length+1) (nN s.length fr m) (fun k s o h=>h.app o) (fun k s j e z n p h l hc=>h.set l hc) (fun k s h=>h.len) (fun k s K hk h i=>a3f hi c h hk i) _ ⟨⟨bW f _,bW a _⟩,by simp⟩) ?_);rintro d b ⟨_,a,g⟩;have h:lD m ((gV m).length/64)=nv m:=(a3E m).symm
 rw[h]at a;exact⟨a,g⟩
theorem a3l(v:Int)(k m:Nat)(hm:m<4)(hk:k<8)(H:List Int)(a:at_ H k=v):IntKind.u8.wrap (v.fdiv (2^min (24-8*m) IntKind.u32.bits))=p8 H (4*k+m):=by
 rw[p8,show(4*k+m)/4=k by omega,show(4*k+m) % 4=m by omega,a];rfl
theorem Sg(H:List Int):n9 H=(List.range 8).foldl (fun b k=>(List.range 4).foldl (fun b m=>b.set (4*k+m) (p8 H (4*k+m))) b) (List.replicate 32 0):=by
 have h:List.range 32=(List.range 8).flatMap fun k=>(List.range 4).map (4*k+ ·):=by decide
 unfold n9;rw[h,List.foldl_flatMap];simp only[List.foldl_map]
set_option maxHeartbeats 1000000 in
theorem a3i(m:bh)(hm:m.size≤1000000000):aG Tryz.prog 160 [dS m] (.agg (aP (ar m))):=by
 have hb:=fun s=>a3k m s;have A:iS.length=8:=rfl;have a: ∀vs:List AV,vs.length=8→b8 ((bt .u32 (List.replicate 8 0)).map .d) 0 8 vs=some vs:=fun vs h=>lq (k:= .u32) (by rfl) h;have e:=NR m;obtain⟨H,z⟩: ∃H,H=nv m:=⟨_,rfl⟩
 have f:=OY m;rw[←z]at e f;refine aM (F:=Db) YB (by simp[Db]) ?_;simp only[Db]
 repeat' first|refine ae (fun _=> ?_) fun _=> ?_|refine aL ?_|refine aq.data (a3o) rfl ?_|(refine aq.fn ((hb _).mono ?_);rintro _ y ⟨rfl,rfl⟩)|simp only[z8,a,A,ed,aQ,wj,wy,qg,aH,reduceCtorEq,reduceIte,Nat.reduceAdd,Nat.reduceMul,Nat.reduceEqDiff,Nat.reduceLT,Nat.reduceLeDiff,Nat.reduceSub,aA,aF,aE,aw]
 refine⟨trivial,_,_,_,rfl,(a3e hm rfl rfl rfl).mono ?_⟩;rintro _ y ⟨⟨G,I⟩,t⟩;unfold mL;rw[t];refine⟨by simp,?_⟩
 have h0T:(y.set [aa.cells (List.map AV.d (aP Dg.zero)),aa.cells (List.map AV.d (bt IntKind.u32 iS))].length (aa.loop ⟨.exhausted,none,[(11,AV.clo 273 [] [AV.d (D.ref [dS m])]),(2,AV.ptr 0 0),(3,AV.ptr 1 0)],[12],38,lA,lB⟩))[0]?=some (.cells ((aP .zero).map .d)):=by
  rw[bC (by simp)];exact G
 have h1T:(y.set [aa.cells (List.map AV.d (aP Dg.zero)),aa.cells (List.map AV.d (bt IntKind.u32 iS))].length (aa.loop ⟨.exhausted,none,[(11,AV.clo 273 [] [AV.d (D.ref [dS m])]),(2,AV.ptr 0 0),(3,AV.ptr 1 0)],[12],38,lA,lB⟩))[1]?=some (.cells ((bt .u32 H).map .d)):=by
  rw[bC (by simp),z];exact I
 dsimp only;generalize(y.set [aa.cells (List.map AV.d (aP Dg.zero)),aa.cells (List.map AV.d (bt IntKind.u32 iS))].length (aa.loop ⟨.exhausted,none,[(11,AV.clo 273 [] [AV.d (D.ref [dS m])]),(2,AV.ptr 0 0),(3,AV.ptr 1 0)],[12],38,lA,lB⟩))=T at h0T h1T⊢;have L:(bt .u32 H).take 8=bt .u32 H:=dq (by rw[ed,f];decide);clear G I t hb a z;rw[e]
 have h1J:=bW h1T;refine aO (ga @h1T (ga @h1J (ga @L (ga @ed (ga @f @wj))))) ab ?_;have o:n9 H=(List.range 8).foldl (fun b k=>(List.range 4).foldl (fun b m=>b.set (4*k+m) (p8 H (4*k+m))) b) (List.replicate 32 0):=Sg H
 refine aZ.overI (List.range 8) (fun k (b:List Int)=>[(17,iN k)]) (fun k b=>T++[.cells ((bt .u8 b).map .d)]) (fun r b=>r.foldl (fun b k=>(List.range 4).foldl (fun b m=>b.set (4*k+m) (p8 H (4*k+m))) b) b) (n9 H) (fun k b=>b.length=32) (List.replicate 32 0) (by decide) aB aB rfl o (by simp) (fun k b x hg hk J N n j=> ?_) (fun b J n j=> ?_)
 ·rw[ew]at hk;obtain rfl:k=x:=by rw[qA a8]at hg;simpa using hg
  have K:((k:Int)<8)=True:=by simp;omega
  have M:=fX (w:=H) (i:=k) a8;rw[gD]at n;clear hg J e o h1J;refine aO (ga @K (ga @M @oy)) ab ?_
  refine aZ.overI (List.range 4) (fun m (b:List Int)=>[(21,iN m)]) (fun m b=>T++[.cells ((bt .u8 b).map .d)]) (fun r b=>r.foldl (fun b m=>b.set (4*k+m) (p8 H (4*k+m))) b) ((List.range 4).foldl (fun b m=>b.set (4*k+m) (p8 H (4*k+m))) b) (fun m b=>b.length=32) b (by decide) aB aB rfl rfl j (fun m b x hg hm q C c g=> ?_) (fun b q c g=> ?_)
  ·rw[ew]at hm;obtain rfl:m=x:=by rw[qA a8]at hg;simpa using hg
   have O:IntKind.i64.wrap (4*(k:Int))=((4*k:Nat):Int):=bE a8 a8;have P:IntKind.i64.wrap (((4*k:Nat):Int)+(m:Int))=((4*k+m:Nat):Int):=bE a8 a8;have Q:IntKind.i64.wrap (8*(m:Int))=((8*m:Nat):Int):=bE a8 a8;have R:IntKind.i64.wrap (24-((8*m:Nat):Int))=((24-8*m:Nat):Int):=bE a8 a8
   have S:((0:Int)≤((24-8*m:Nat):Int))=True:=by simp
   have U:(((4*k+m:Nat):Int)<32)=True:=by simp;omega
   have V:((m:Int)<4)=True:=by simp;omega
   have B:=a3l (at_ H k) k m a8 a8 H rfl;have u:=fun x=>nj (k:= .u8) (l:=b) (i:=4*k+m) a8 x;rw[gD]at c;clear hg q n
   repeat' first|refine ae (fun _=> ?_) fun _=> ?_|refine aL ?_|simp only[K,O,P,Q,R,S,U,V,B,u,C,oy,fC,Int.reduceLE,Int.reduceLT,Int.reduceGE,Int.reduceGT,Int.reduceEq,Int.reduceNe,Int.reduceBEq,Int.reduceBNe,decide_true,decide_false,wj,wy,qg,aH,reduceCtorEq,reduceIte,Nat.reduceAdd,Nat.reduceMul,Nat.reduceEqDiff,Nat.reduceLT,Nat.reduceLeDiff,Nat.reduceSub,aA,aF,aE,aw]
   exact⟨_,rfl,c,by simp[g]⟩
  ·rw[uf]at c;refine aO @N ab ?_;exact⟨b,rfl,by rw[n,c],g⟩
 ·have B:n9 H=b:=n;have E:(bt .u8 b).take 32=bt .u8 b:=dq (by rw[ed,j];decide);have a: ∀vs:List AV,vs.length=32→b8 ((aP .zero).map .d) 0 32 vs=some vs:=fun vs h=>gN (by rw[aQ,ba]) h;have h0J:=bW h0T;have p:=(b9.1 h0T).1
  have v:((T++[aa.cells (List.map AV.d (bt .u8 b))]).set 0 (aa.cells (List.map AV.d (bt .u8 b))))[0]?=some (.cells (List.map AV.d (bt .u8 b))):=fx (by simp)
  repeat' first|refine ae (fun _=> ?_) fun _=> ?_|refine ay (ga @h0T (ga @h0J (ga @p (ga @v (ga @E (ga @a (ga @ed (ga @j @wj)))))))) ab ?_|exact ax (ga @h0T (ga @h0J (ga @p (ga @v (ga @E (ga @a (ga @ed (ga @j @wj)))))))) ab|fail
  rw[B]
end Go.Proofs.Q
