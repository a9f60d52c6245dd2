/- Part of a proof. -/
import Derived.Test.YtfoljakejdgfcaaGreatDoorPAL
import Derived.Test.YtfoljakejdgfcaaGreatDoorV1
import Derived.Test.YtfoljakejdgfcaaGreatDoorPAM
set_option linter.unusedVariables false
set_option linter.unusedSimpArgs false
namespace Go.Proofs.Q
open Go Go.Bb Go.RowKit Go.Proofs.Lg
open Go.Ab (D RD)
theorem jH(d:Dg):aE Tryz.prog 81 [.agg (aq d)] (dB (isZero d)):=by
 refine aI (F:=AJ) Tn (by simp[AJ]) ?_;simp only[AJ]
 repeat' first|refine ak (fun _=> ?_) fun _=> ?_|refine aD ?_|simp only[isZero,wy,qg,aC,reduceCtorEq,reduceIte,Nat.reduceAdd,Nat.reduceMul,Nat.reduceEqDiff,Nat.reduceLT,Nat.reduceLeDiff,Nat.reduceSub,ax,aB,ay,au]
 all_goals(simp_all[isZero,bS];try exact bQ)
theorem lI(a b:Dg):aE Tryz.prog 54 [.agg (aq a),.agg (aq b)] (dI (cQ a b)):=by
 refine aI (F:=zS) SF (by simp[zS]) ?_;simp only[zS];refine aw trivial trivial ?_;refine aX.over (a.l.zip b.l) (fun k (_:Unit)=>[(5,iN k)]) (fun _ _=>[]) (fun l _=>im l) (cQ a b) () (by simp[a.len,b.len]) aA aA rfl rfl (fun k _ x hg c h f g=> ?_) (fun _ h g=> ?_)
 ·obtain⟨d,e⟩:=qK hg;have c:(k:Int)<32:=by have:=(aR.1 d).1;rw[a.len]at this;omega
  repeat' first|refine ak (fun _=> ?_) fun _=> ?_|refine bb (ga @d (ga @e (ga @c (ga @f @Kk)))) trivial ?_|exact ba (ga @d (ga @e (ga @c (ga @f @Kk)))) trivial|fail
  all_goals(simp_all[im,bS];try exact bQ)
 ·have c:((a.l.zip b.l).length:Int)=32:=by simp[a.len,b.len]
  refine aw @c trivial ?_
  all_goals(simp_all[im,bS];try exact bQ)
theorem JZ(a b:List Dg):aE Tryz.prog 17 [.sl 32 (a.map aq),.sl 32 (b.map aq)] (dB (same a b)):=by
 refine aE.big (enters_of J6) 0 rfl fun j=> ?_;rw[aL]at j;refine aI (F:=zT) J6 (by simp[zT]) ?_;simp only[zT]
 repeat' first|refine ak (fun _=> ?_) fun _=> ?_|refine bb trivial trivial ?_|exact ba trivial trivial|fail
 ·all_goals(simp_all[same,bS];try exact bQ)
 ·rename_i h0;have c:a.length=b.length:=by simp at h0;omega
  refine aX.over (a.zip b) (fun k (_:Unit)=>[(5,iN k)]) (fun _ _=>[]) (fun l _=>fU l) (same a b) () (by simp[c];omega) aA aA rfl (by simp[same,c]) (fun k _ x hg d i g h=> ?_) (fun _ i h=> ?_)
  ·obtain⟨e,f⟩:=qK hg;have d:(k:Int)<(a.length:Int):=by have:=(aR.1 e).1;omega
   repeat' first|refine ak (fun _=> ?_) fun _=> ?_|refine bb (ga @e (ga @f (ga @d @g))) trivial ?_|exact ba (ga @e (ga @f (ga @d @g))) trivial|fail
   all_goals(simp_all[fU,bS];try exact bQ)
  ·have d:((a.zip b).length:Int)=a.length:=by simp[c]
   refine aw @d trivial ?_
   all_goals(simp_all[fU,bS];try exact bQ)
theorem UW(a b:List aZ):aE Tryz.prog 106 [.sl 1 (a.map eG),.sl 1 (b.map eG)] (dB (same a b)):=by
 refine aE.big (enters_of J8) 0 rfl fun i=> ?_;rw[aL]at i;refine aI (F:=A5) J8 (by simp[A5]) ?_;simp only[A5]
 repeat' first|refine ak (fun _=> ?_) fun _=> ?_|refine bb trivial trivial ?_|exact ba trivial trivial|fail
 ·all_goals(simp_all[same,bS];try exact bQ)
 ·rename_i h0;have c:a.length=b.length:=by simp at h0;omega
  refine aX.over (a.zip b) (fun k (_:Unit)=>[(5,iN k)]) (fun _ _=>[]) (fun l _=>fU l) (same a b) () (by simp[c];omega) aA aA rfl (by simp[same,c]) (fun k _ x hg d h j g=> ?_) (fun _ h g=> ?_)
  ·obtain⟨e,f⟩:=qK hg;have d:(k:Int)<(a.length:Int):=by have:=(aR.1 e).1;omega
   repeat' first|refine ak (fun _=> ?_) fun _=> ?_|refine aD ?_|simp only[e,f,d,j,decide_true,eG,jY,wy,qg,aC,reduceCtorEq,reduceIte,Nat.reduceAdd,Nat.reduceMul,Nat.reduceEqDiff,Nat.reduceLT,Nat.reduceLeDiff,Nat.reduceSub,ax,aB,ay,au]
   all_goals(simp_all[fU,bS];try exact bQ)
  ·have d:((a.zip b).length:Int)=a.length:=by simp[c]
   refine aw @d trivial ?_
   all_goals(simp_all[fU,bS];try exact bQ)
theorem K1(s:aZ)(x y:Nat)(d:s.size≤9223372036854775807):aE Tryz.prog 285 [dS s,.sc (.int .u8 x),.sc (.int .u8 y)] (dB (clean s x y)):=by
 refine aI (F:=A7) SP (by simp[A7]) ?_;simp only[A7];refine aw trivial trivial ?_;refine aX.over s.data.toList (fun k (_:Unit)=>[(7,iN k)]) (fun _ _=>[]) (fun l _=>hasB l x y) (clean s x y) () (by rw[fi];exact d) aA aA rfl rfl (fun k _ x hg e a b c=> ?_) (fun _ a c=> ?_)
 ·rw[fi]at a
  repeat' first|refine ak (fun _=> ?_) fun _=> ?_|refine bb (ga @a (ga @b (ga @pI @hg))) trivial ?_|exact ba (ga @a (ga @b (ga @pI @hg))) trivial|fail
  all_goals(simp_all[hasB,bS];try exact bQ)
 ·rw[fi]at a;refine aw (ga @a @fi) trivial ?_
  all_goals(simp_all[hasB,bS];try exact bQ)
theorem UX(s:aZ)(a:s.size≤9223372036854775807):aE Tryz.prog 258 [dS s] (dB (kj s)):=by
 refine aI (F:=A6) SO (by simp[A6]) ?_;simp only[A6]
 repeat' first|refine ak (fun _=> ?_) fun _=> ?_|refine bb trivial (K1 s 10 0 a) ?_|exact ba trivial (K1 s 10 0 a)|fail
 all_goals(simp_all[kj,bS];try exact bQ)
theorem K0(l:List aZ):aE Tryz.prog 48 [.sl 1 (l.map eG)] (dB (tJ l)):=by
 refine aE.big (enters_of J7) 0 rfl fun b=> ?_;rw[aL]at b;refine aI (F:=A4) J7 (by simp[A4]) ?_;simp only[A4];refine aw trivial trivial ?_
 refine aX.over l (fun k (n:Int)=>[(4,iN k),(3,.d (.sc (.int .i64 n)))]) (fun _ _=>[]) (fun l n=>uu l n) (uu l 0) 0 b aA aA rfl rfl (fun k _ x hg f a e c=> ?_) (fun _ a c=> ?_)
 ·repeat' first|refine ak (fun _=> ?_) fun _=> ?_|refine aD ?_|simp only[a,e,hg,eG,wy,qg,aC,reduceCtorEq,reduceIte,Nat.reduceAdd,Nat.reduceMul,Nat.reduceEqDiff,Nat.reduceLT,Nat.reduceLeDiff,Nat.reduceSub,ax,aB,ay,au]
  all_goals(simp_all[uu,bS];try exact bQ)
 ·repeat' first|refine ak (fun _=> ?_) fun _=> ?_|refine bb @a trivial ?_|exact ba @a trivial|fail
  all_goals(simp_all[tJ,uu,bS];try exact bQ)
set_option maxHeartbeats 4000000 in
theorem K3(s:aZ)(d:s.size≤9223372036854775807):aE Tryz.prog 107 [dS s] (dB (isName s)):=by
 refine aI (F:=A8) SQ (by simp[A8]) ?_;simp only[A8];refine aw trivial trivial ?_;refine aX.over s.data.toList (fun k (_:Unit)=>[(3,iN k)]) (fun _ _=>[]) (fun l _=>mC l) (mC s.data.toList) () (by rw[fi];exact d) aA aA rfl rfl (fun k _ x hg e a b c=> ?_) (fun _ a c=> ?_)
 ·rw[fi]at a
  repeat' first|refine ak (fun _=> ?_) fun _=> ?_|refine bb (ga @a (ga @b (ga @pI @hg))) trivial ?_|exact ba (ga @a (ga @b (ga @pI @hg))) trivial|fail
  all_goals(simp_all[mC,tR,isName,bS];try exact bQ)
 ·rw[fi]at a
  repeat' first|refine ak (fun _=> ?_) fun _=> ?_|refine bb (ga @a (ga @fi @jY)) trivial ?_|exact ba (ga @a (ga @fi @jY)) trivial|fail
  all_goals(simp_all[mC,isName,bS];try exact bQ)
theorem Eh(a b:ar):aE Tryz.prog 110 [.agg (ab a),.agg (ab b)] (dI (en a b)):=by
 refine aI (F:=Ac) SS (by simp[Ac]) ?_;simp only[Ac]
 repeat' first|refine ak (fun _=> ?_) fun _=> ?_|refine bb trivial @lI ?_|exact ba trivial @lI|fail
 all_goals(simp_all[en,bS];try exact bQ)
theorem Ej:aE Tryz.prog 257 [] (.agg (ab .zero)):=by
 refine aI (F:=Ay) Td (by simp[Ay]) ?_;simp only[Ay];exact bx trivial trivial
 all_goals(simp_all[en,bS];try exact bQ)
theorem Ka(k:Int):aE Tryz.prog 178 [dI k] (dI (wJ k)):=by
 refine aI (F:=AH) Tl (by simp[AH]) ?_;simp only[AH]
 repeat' first|refine ak (fun _=> ?_) fun _=> ?_|refine bb trivial trivial ?_|exact ba trivial trivial|fail
 all_goals(simp_all[wJ,bS];try exact bQ)
theorem u7(k:Int):aE Tryz.prog 176 [dI k] (dB (mJ k)):=by
 refine aI (F:=AG) Tk (by simp[AG]) ?_;simp only[AG]
 repeat' first|refine ak (fun _=> ?_) fun _=> ?_|refine bb trivial trivial ?_|exact ba trivial trivial|fail
 all_goals(simp_all[mJ,bS];try exact bQ)
theorem K7(x:ar)(n:Int):aE Tryz.prog 259 [.agg (ab x),dI n] (dB (allowed x n)):=by
 refine aI (F:=Am) T4 (by simp[Am]) ?_;simp only[Am]
 repeat' first|refine ak (fun _=> ?_) fun _=> ?_|refine bb trivial @jH ?_|exact ba trivial @jH|fail
 all_goals(simp_all[allowed,bS];try exact bQ)
theorem BB(k:Int)(x:aJ):aE Tryz.prog 125 [dI k,.agg (aO x)] (dB (lE k x)):=by
 refine aI (F:=Ae) SV (by simp[Ae]) ?_;simp only[Ae]
 repeat' first|refine ak (fun _=> ?_) fun _=> ?_|refine bb trivial @u7 ?_|exact ba trivial @u7|fail
 all_goals(simp_all[lE,bS];try exact bQ)
theorem BA(f:ar)(x:aJ):aE Tryz.prog 177 [.agg (ab f),.agg (aO x)] (dB (vm f x)):=by
 refine aI (F:=Ad) SU (by simp[Ad]) ?_;simp only[Ad]
 repeat' first|refine ak (fun _=> ?_) fun _=> ?_|refine bb trivial trivial ?_|exact ba trivial trivial|fail
 all_goals(simp_all[vm,bS];try exact bQ)
theorem BC(k:Int)(f:ar)(x:aJ):aE Tryz.prog 128 [dI k,.agg (ab f),.agg (aO x)] (dB (ri k f x)):=by
 refine aI (F:=Af) SX (by simp[Af]) ?_;simp only[Af]
 repeat' first|refine ak (fun _=> ?_) fun _=> ?_|refine bb trivial @Ka ?_|exact ba trivial @Ka|fail
 all_goals(simp_all[ri,bS];try exact bQ)
theorem qo(x:ar)(own:List aJ)(b:Bool):aE Tryz.prog 215 [.agg (ab x),.sl 172 (own.map aO),dB b] (dI (mE x own b)):=by
 refine aI (F:=AA) Tf (by simp[AA]) ?_;simp only[AA]
 repeat' first|refine ak (fun _=> ?_) fun _=> ?_|refine bb trivial (ga @jH @K7) ?_|exact ba trivial (ga @jH @K7)|fail
 all_goals(simp_all[mE,bS];try exact bQ)
theorem V8(c:af):aE Tryz.prog 211 [.agg (aQ c)] (dB (nc c)):=by
 refine aI (F:=Ar) T8 (by simp[Ar]) ?_;simp only[Ar]
 repeat' first|refine ak (fun _=> ?_) fun _=> ?_|refine bb @jY @Ej ?_|exact ba @jY @Ej|fail
 all_goals(simp_all[nc,bS];try exact bQ)
set_option maxHeartbeats 1000000 in
theorem Ve(c:af):aE Tryz.prog 212 [.agg (aQ c)] (.agg (aQ (ku c))):=by
 refine aI (F:=AF) Tj (by simp[AF]) ?_;simp only[AF]
 repeat' first|refine ak (fun _=> ?_) fun _=> ?_|refine aD ?_|refine aj.data (Ej) rfl ?_|simp only[fI,datA,wy,qg,aC,reduceCtorEq,reduceIte,Nat.reduceAdd,Nat.reduceMul,Nat.reduceEqDiff,Nat.reduceLT,Nat.reduceLeDiff,Nat.reduceSub,ax,aB,ay,au]
 all_goals refine congrArg (fun x=>D.agg (aQ x)) ?_
 all_goals(simp_all[ku,bS];try exact bQ)
theorem Vb(l:List aZ)(d: ∀s∈l,ByteArray.size s≤9223372036854775807):aE Tryz.prog 213 [.sl 1 (l.map eG)] (dI (mB l)):=by
 refine aE.big (enters_of Ji) 0 rfl fun b=> ?_;rw[aL]at b;refine aI (F:=Aw) Ji (by simp[Aw]) ?_;simp only[Aw]
 repeat' first|refine ak (fun _=> ?_) fun _=> ?_|refine bb trivial trivial ?_|exact ba trivial trivial|fail
 ·all_goals(simp_all[mB,bS];try exact bQ)
 ·all_goals(simp_all[mB,bS];try exact bQ)
 ·rename_i g h;refine aX.over l (fun k (_:Unit)=>[(3,iN k)]) (fun _ _=>[]) (fun l _=>km l) (mB l) () b aA aA rfl (by simp_all[mB];intros;omega) (fun k _ x hg i a e c=> ?_) (fun _ a c=> ?_)
  ·have f:=d x (bT hg)
   repeat' first|refine ak (fun _=> ?_) fun _=> ?_|refine aD ?_|refine aj.data (UX _ f) rfl ?_|simp only[a,e,hg,eG,wy,qg,aC,reduceCtorEq,reduceIte,Nat.reduceAdd,Nat.reduceMul,Nat.reduceEqDiff,Nat.reduceLT,Nat.reduceLeDiff,Nat.reduceSub,ax,aB,ay,au]
   all_goals(simp_all[km,bS];try exact bQ)
  ·refine aw @a trivial ?_
   all_goals(simp_all[km,bS];try exact bQ)
theorem qn(own:List aJ)(x:ar):aE Tryz.prog 216 [.sl 172 (own.map aO),.agg (ab x)] (.agg (aO (jB own x))):=by
 refine aI (F:=Av) Tb (by simp[Av]) ?_;simp only[Av]
 repeat' first|refine ak (fun _=> ?_) fun _=> ?_|refine bb (ga @ef @bJ) @jH ?_|exact ba (ga @ef @bJ) @jH|fail
 ·rename_i f e g;have d:x.n.toNat<own.length:=by omega
  have hg:=bV d;refine aw (ga @e (ga @hg (ga @ef @bJ))) trivial ?_
  all_goals(simp_all[jB,bS];try exact bQ)
 all_goals(have h:jB own x=aJ.zero:=if_neg (fun⟨a,b,c⟩=>by first|(simp_all;done)|omega);rw[h])
theorem UY(l:List ar):aE Tryz.prog 214 [.sl 33 (l.map ab)] (dB (iR l)):=by
 refine aE.big (enters_of J9) 0 rfl fun h=> ?_;rw[aL]at h;refine aI (F:=A9) J9 (by simp[A9]) ?_;simp only[A9];refine aw trivial trivial ?_;refine aX.tr (fun(k:Nat)=>[(3,iN (k+1))]) (fun _=>[]) (fun m k=>m+k=l.length∧iR l=iR (l.drop k)) l.length 0 aA aA rfl ⟨rfl,rfl⟩ ?_;rintro m k ⟨hm,a⟩
 by_cases e:k+1<l.length
 ·have h0:l[k]?=some l[k]:=bV a8;have f:l[k+1]?=some l[k+1]:=bV e;have c:decide (((k+1:Nat):Int)<(l.length:Int))=true:=by simp;omega
  have g:IntKind.i64.wrap (((k+1:Nat):Int)+1)=((k+1+1:Nat):Int):=ck a8 a8;have b:IntKind.i64.wrap (((k+1:Nat):Int)-1)=(k:Int):=ck a8 a8;rw[js (by omega:k<l.length),js e]at a
  repeat' first|refine ak (fun _=> ?_) fun _=> ?_|refine bb (ga @c (ga @g (ga @b (ga @h0 @f)))) @Eh ?_|exact ba (ga @c (ga @g (ga @b (ga @h0 @f)))) @Eh|fail
  ·all_goals(simp_all[iR,bS];try exact bQ)
  ·rename_i hc;rw[iR,if_neg (by simpa using hc),←js e]at a;exact⟨m-1,k+1,by omega,rfl,by omega,a⟩
 ·have c:decide (((k+1:Nat):Int)<(l.length:Int))=false:=by simp;omega
  have d:iR (l.drop k)=true:=by
   have:(l.drop k).length≤1:=by rw[ax];omega
   match l.drop k,this with
   |[],_=>rfl
   |[_],_=>rfl
  rw[d]at a;refine aw @c trivial ?_
  all_goals(simp_all[a,bS];try exact bQ)
theorem HZ(x:ar): ∀(l:List ar) (k:Nat),k≤ki x l k∧ki x l k≤k+l.length
 |[],k=>by simp[ki]
 |y::l,k=>by
  unfold ki;split
  ·have:=HZ x l (k+1);simp only[aU];omega
  ·simp
theorem Dw{l:List ar}{x:ar}{k:Nat}(h:ki x l 0=k):tM l x=if l[k]?=some x then l else l.take k++x::l.drop k:=by unfold tM;rw[h]
theorem BD(l:List ar)(z:ar)(q:l.length≤1000000000):aE Tryz.prog 69 [.sl 33 (l.map ab),.agg (ab z)] (.sl 33 ((tM l z).map ab)):=by
 refine aI (F:=Ah) SZ (by simp[Ah]) ?_;simp only[Ah];refine aw trivial trivial ?_;refine aX.over l (fun k (_:Unit)=>[(5,iN k)]) (fun _ _=>[]) (fun r _=>ki z r (l.length-r.length)) (ki z l 0) () a8 aA aA rfl (by simp) (fun k _ x hg p e j a=> ?_) (fun _ e a=> ?_)
 ·have i:l.length-(x::l.drop (k+1)).length=k:=by simp only[aU,ax];omega
  have o:l.length-(l.drop (k+1)).length=k+1:=by simp only[ax];omega
  rw[i,ki]at a;have f:(k:Int)≤(l.length:Int):=by omega
  have g:br (l.take k).length 40=true:=by simp only[br,decide_eq_true_eq,du];omega
  have m:br ((l.take k).length+1) 40=true:=by simp only[br,decide_eq_true_eq,du];omega
  have n:br ((l.take k).length+1+(l.length-k)) 40=true:=by simp only[br,decide_eq_true_eq,du];omega
  repeat' first|refine ak (fun _=> ?_) fun _=> ?_|refine aD ?_|refine aj.data (Eh _ _) rfl ?_|simp only[e,j,hg,f,g,m,n,iL,iz,py,wy,qg,aC,reduceCtorEq,reduceIte,Nat.reduceAdd,Nat.reduceMul,Nat.reduceEqDiff,Nat.reduceLT,Nat.reduceLeDiff,Nat.reduceSub,ax,aB,ay,au]
  ·rename_i h;rw[if_pos h]at a;exact⟨(),by rw[a];congr 1;omega⟩
  ·rename_i b c;rw[if_neg b]at a;rw[Dw a,hg,if_pos (by rw[c])]
  ·rename_i b c;rw[if_neg b]at a;rw[Dw a,hg,if_neg (by simpa using c)];simp[EB]
 ·have f:br l.length 40=true:=by simp only[br,decide_eq_true_eq];omega
  have g:br (l.length+1) 40=true:=by simp only[br,decide_eq_true_eq];omega
  have d:ki z l 0=l.length:=by rw[a];simp[ki]
  repeat' first|refine ak (fun _=> ?_) fun _=> ?_|refine aD ?_|simp only[e,f,g,iL,iz,py,sO,ia,wy,qg,aC,reduceCtorEq,reduceIte,Nat.reduceAdd,Nat.reduceMul,Nat.reduceEqDiff,Nat.reduceLT,Nat.reduceLeDiff,Nat.reduceSub,ax,aB,ay,au]
  rw[Dw d,fZ (bh _),if_neg (by simp)];simp
end Go.Proofs.Q
