/- Lemmas. -/
import Derived.Test.YtellfinifjmloaaGreatDoorPAI
import Derived.Test.YtellfinifjmloaaGreatDoorV1
set_option linter.unusedVariables false
set_option linter.unusedSimpArgs false
namespace Go.Proofs.Q
open Go Go.Bb Go.RowKit Go.Proofs.Lg
open Go.Ab (D RD)
theorem kH(d:Dg):aG Tryz.prog 119 [.agg (aP d)] (dB (isZero d)):=by
 refine aM (F:=CM) Yi (by simp[CM]) ?_;simp only[CM]
 repeat' first|simp only[isZero]|refine ae (fun _=> ?_) fun _=> ?_|refine ay ab ab ?_|exact ax ab ab|fail
 all_goals(simp_all[isZero,cG];try exact cB)
theorem ot(a b:Dg):aG Tryz.prog 70 [.agg (aP a),.agg (aP b)] (dI (bS a b)):=by
 refine aM (F:=BZ) XF (by simp[BZ]) ?_;simp only[BZ];refine aO ab ab ?_;refine aZ.over (a.l.zip b.l) (fun k (_:Unit)=>[(5,iN k)]) (fun _ _=>[]) (fun l _=>iG l) (bS a b) () (by simp[a.len,b.len]) aB aB rfl rfl (fun k _ x hg hk g e f=> ?_) (fun _ g f=> ?_)
 ·obtain⟨c,d⟩:=yO hg;have hk:(k:Int)<32:=by have:=(b9.1 c).1;rw[a.len]at this;omega
  repeat' first|refine ae (fun _=> ?_) fun _=> ?_|refine ay (ga @c (ga @d (ga @hk (ga @e @NQ)))) ab ?_|exact ax (ga @c (ga @d (ga @hk (ga @e @NQ)))) ab|fail
  all_goals(simp_all[iG,cG];try exact cB)
 ·have hk:((a.l.zip b.l).length:Int)=32:=by simp[a.len,b.len]
  refine aO @hk ab ?_
  all_goals(simp_all[iG,cG];try exact cB)
theorem No(s:bh)(x y:Nat)(d:s.size≤9223372036854775807):aG Tryz.prog 301 [dS s,.sc (.int .u8 x),.sc (.int .u8 y)] (dB (clean s x y)):=by
 refine aM (F:=C9) XO (by simp[C9]) ?_;simp only[C9];refine aO ab ab ?_;refine aZ.over s.data.toList (fun k (_:Unit)=>[(7,iN k)]) (fun _ _=>[]) (fun l _=>hasB l x y) (clean s x y) () (by rw[fD];exact d) aB aB rfl rfl (fun k _ x hg hk a b c=> ?_) (fun _ a c=> ?_)
 ·rw[fD]at a
  repeat' first|refine ae (fun _=> ?_) fun _=> ?_|refine ay (ga @a (ga @b (ga @qM @hg))) ab ?_|exact ax (ga @a (ga @b (ga @qM @hg))) ab|fail
  all_goals(simp_all[hasB,cG];try exact cB)
 ·rw[fD]at a;refine aO (ga @a @fD) ab ?_
  all_goals(simp_all[hasB,cG];try exact cB)
theorem Nn(s:bh)(a:s.size≤9223372036854775807):aG Tryz.prog 279 [dS s] (dB (la s)):=by
 refine aM (F:=C8) XN (by simp[C8]) ?_;simp only[C8]
 repeat' first|refine ae (fun _=> ?_) fun _=> ?_|refine ay ab (No s 10 0 a) ?_|exact ax ab (No s 10 0 a)|fail
 all_goals(simp_all[la,cG];try exact cB)
theorem Nl(l:List bh):aG Tryz.prog 79 [.sl 1 (l.map eW)] (dB (uW l)):=by
 refine aG.big (enters_of Mo) 0 rfl fun b=> ?_;rw[aQ]at b;refine aM (F:=C7) Mo (by simp[C7]) ?_;simp only[C7];refine aO ab ab ?_;refine aZ.over l (fun k (n:Int)=>[(4,iN k),(3,.d (.sc (.int .i64 n)))]) (fun _ _=>[]) (fun l n=>vR l n) (vR l 0) 0 b aB aB rfl rfl (fun k _ x hg hk a e c=> ?_) (fun _ a c=> ?_)
 ·repeat' first|simp only[a,e,hg,eW]|refine ae (fun _=> ?_) fun _=> ?_|refine ay ab ab ?_|exact ax ab ab|fail
  all_goals(simp_all[vR,cG];try exact cB)
 ·repeat' first|refine ae (fun _=> ?_) fun _=> ?_|refine ay @a ab ?_|exact ax @a ab|fail
  all_goals(simp_all[uW,vR,cG];try exact cB)
set_option maxHeartbeats 4000000 in
theorem Np(s:bh)(d:s.size≤9223372036854775807):aG Tryz.prog 121 [dS s] (dB (isName s)):=by
 refine aM (F:=Ca) XP (by simp[Ca]) ?_;simp only[Ca];refine aO ab ab ?_;refine aZ.over s.data.toList (fun k (_:Unit)=>[(3,iN k)]) (fun _ _=>[]) (fun l _=>oo l) (oo s.data.toList) () (by rw[fD];exact d) aB aB rfl rfl (fun k _ x hg hk a b c=> ?_) (fun _ a c=> ?_)
 ·rw[fD]at a
  repeat' first|refine ae (fun _=> ?_) fun _=> ?_|refine ay (ga @a (ga @b (ga @qM @hg))) ab ?_|exact ax (ga @a (ga @b (ga @qM @hg))) ab|fail
  all_goals(simp_all[oo,vn,isName,cG];try exact cB)
 ·rw[fD]at a
  repeat' first|refine ae (fun _=> ?_) fun _=> ?_|refine ay (ga @a (ga @fD @nR)) ab ?_|exact ax (ga @a (ga @fD @nR)) ab|fail
  all_goals(simp_all[oo,isName,cG];try exact cB)
theorem DN(a b:af):aG Tryz.prog 124 [.agg (aj a),.agg (aj b)] (dI (cY a b)):=by
 refine aM (F:=Cd) XR (by simp[Cd]) ?_;simp only[Cd]
 repeat' first|refine ae (fun _=> ?_) fun _=> ?_|refine ay ab @ot ?_|exact ax ab @ot|fail
 all_goals(simp_all[cY,cG];try exact cB)
theorem Gy:aG Tryz.prog 278 [] (.agg (aj .zero)):=by
 refine aM (F:=Cz) Y8 (by simp[Cz]) ?_;simp only[Cz];exact bU ab ab
 all_goals(simp_all[cY,cG];try exact cB)
theorem Nz(k:Int):aG Tryz.prog 232 [dI k] (dI (vW k)):=by
 refine aM (F:=CK) Yg (by simp[CK]) ?_;simp only[CK]
 repeat' first|refine ae (fun _=> ?_) fun _=> ?_|refine ay ab ab ?_|exact ax ab ab|fail
 all_goals(simp_all[vW,cG];try exact cB)
theorem vy(k:Int):aG Tryz.prog 230 [dI k] (dB (nw k)):=by
 refine aM (F:=CJ) Yf (by simp[CJ]) ?_;simp only[CJ]
 repeat' first|refine ae (fun _=> ?_) fun _=> ?_|refine ay ab ab ?_|exact ax ab ab|fail
 all_goals(simp_all[nw,cG];try exact cB)
theorem Nw(x:af)(n:Int):aG Tryz.prog 280 [.agg (aj x),dI n] (dB (allowed x n)):=by
 refine aM (F:=Co) XZ (by simp[Co]) ?_;simp only[Co]
 repeat' first|refine ae (fun _=> ?_) fun _=> ?_|refine ay ab @kH ?_|exact ax ab @kH|fail
 all_goals(simp_all[allowed,cG];try exact cB)
theorem DP(k:Int)(x:au):aG Tryz.prog 174 [dI k,.agg (aI x)] (dB (fE k x)):=by
 refine aM (F:=Cf) XT (by simp[Cf]) ?_;simp only[Cf]
 repeat' first|refine ae (fun _=> ?_) fun _=> ?_|refine ay ab @vy ?_|exact ax ab @vy|fail
 all_goals(simp_all[fE,cG];try exact cB)
theorem DO(f:af)(x:au):aG Tryz.prog 231 [.agg (aj f),.agg (aI x)] (dB (nT f x)):=by
 refine aM (F:=Ce) XS (by simp[Ce]) ?_;simp only[Ce]
 repeat' first|refine ae (fun _=> ?_) fun _=> ?_|refine ay ab ab ?_|exact ax ab ab|fail
 all_goals(simp_all[nT,cG];try exact cB)
theorem DQ(k:Int)(f:af)(x:au):aG Tryz.prog 177 [dI k,.agg (aj f),.agg (aI x)] (dB (pf k f x)):=by
 refine aM (F:=Cg) XU (by simp[Cg]) ?_;simp only[Cg]
 repeat' first|refine ae (fun _=> ?_) fun _=> ?_|refine ay ab @Nz ?_|exact ax ab @Nz|fail
 all_goals(simp_all[pf,cG];try exact cB)
theorem rC(x:af)(own:List au)(b:Bool):aG Tryz.prog 237 [.agg (aj x),.sl 172 (own.map aI),dB b] (dI (jL x own b)):=by
 refine aM (F:=CB) Ya (by simp[CB]) ?_;simp only[CB]
 repeat' first|refine ae (fun _=> ?_) fun _=> ?_|refine ay ab (ga @kH @Nw) ?_|exact ax ab (ga @kH @Nw)|fail
 all_goals(simp_all[jL,cG];try exact cB)
theorem a0d(c:aC):aG Tryz.prog 233 [.agg (aV c)] (dB (pb c)):=by
 refine aM (F:=Ct) Y3 (by simp[Ct]) ?_;simp only[Ct]
 repeat' first|refine ae (fun _=> ?_) fun _=> ?_|refine ay @nR @Gy ?_|exact ax @nR @Gy|fail
 all_goals(simp_all[pb,cG];try exact cB)
set_option maxHeartbeats 1000000 in
theorem a0j(c:aC):aG Tryz.prog 234 [.agg (aV c)] (.agg (aV (lr c))):=by
 refine aM (F:=CH) Ye (by simp[CH]) ?_;simp only[CH]
 repeat' first|refine ae (fun _=> ?_) fun _=> ?_|refine aL ?_|refine aq.data (Gy) rfl ?_|simp only[fb,datA,wy,qg,aH,simprocAttr,aA,aF,aE,aw]
 all_goals refine congrArg (fun x=>D.agg (aV x)) ?_
 all_goals(simp_all[lr,cG];try exact cB)
theorem a0g(l:List bh)(e: ∀s∈l,ByteArray.size s≤9223372036854775807):aG Tryz.prog 235 [.sl 1 (l.map eW)] (dI (nZ l)):=by
 refine aG.big (enters_of MA) 0 rfl fun b=> ?_;rw[aQ]at b;refine aM (F:=Cx) MA (by simp[Cx]) ?_;simp only[Cx]
 repeat' first|refine ae (fun _=> ?_) fun _=> ?_|refine ay ab ab ?_|exact ax ab ab|fail
 ·all_goals(simp_all[nZ,cG];try exact cB)
 ·all_goals(simp_all[nZ,cG];try exact cB)
 ·rename_i g h;refine aZ.over l (fun k (_:Unit)=>[(3,iN k)]) (fun _ _=>[]) (fun l _=>lg l) (nZ l) () b aB aB rfl (by simp_all[nZ];intros;omega) (fun k _ x hg hk a f d=> ?_) (fun _ a d=> ?_)
  ·have c:=e x (bX hg)
   repeat' first|simp only[a,f,hg,eW]|refine ae (fun _=> ?_) fun _=> ?_|refine ay ab (Nn _ c) ?_|exact ax ab (Nn _ c)|fail
   all_goals(simp_all[lg,cG];try exact cB)
  ·refine aO @a ab ?_
   all_goals(simp_all[lg,cG];try exact cB)
theorem rA(own:List au)(x:af):aG Tryz.prog 238 [.sl 172 (own.map aI),.agg (aj x)] (.agg (aI (j6 own x))):=by
 refine aM (F:=Cw) Y6 (by simp[Cw]) ?_;simp only[Cw]
 repeat' first|refine ae (fun _=> ?_) fun _=> ?_|refine ay (ga @bz @bb) @kH ?_|exact ax (ga @bz @bb) @kH|fail
 ·rename_i f e g;have d:x.n.toNat<own.length:=by omega
  have hg:=bN d;refine aO (ga @e (ga @hg (ga @bz @bb))) ab ?_
  all_goals(simp_all[j6,cG];try exact cB)
 all_goals(have h:j6 own x=au.zero:=if_neg (fun⟨a,b,c⟩=>by first|(simp_all;done)|omega);rw[h])
theorem ZW(l:List af):aG Tryz.prog 236 [.sl 33 (l.map aj)] (dB (gG l)):=by
 refine aG.big (enters_of Mp) 0 rfl fun h=> ?_;rw[aQ]at h;refine aM (F:=Cb) Mp (by simp[Cb]) ?_;simp only[Cb];refine aO ab ab ?_;refine aZ.tr (fun(k:Nat)=>[(3,iN (k+1))]) (fun _=>[]) (fun m k=>m+k=l.length∧gG l=gG (l.drop k)) l.length 0 aB aB rfl ⟨rfl,rfl⟩ ?_;rintro m k ⟨hm,a⟩
 by_cases hk:k+1<l.length
 ·have e:l[k]?=some l[k]:=bN a8;have f:l[k+1]?=some l[k+1]:=bN hk;have c:decide (((k+1:Nat):Int)<(l.length:Int))=true:=by simp;omega
  have g:IntKind.i64.wrap (((k+1:Nat):Int)+1)=((k+1+1:Nat):Int):=bE a8 a8;have b:IntKind.i64.wrap (((k+1:Nat):Int)-1)=(k:Int):=bE a8 a8;rw[kT (by omega:k<l.length),kT hk]at a
  repeat' first|refine ae (fun _=> ?_) fun _=> ?_|refine ay (ga @c (ga @g (ga @b (ga @e @f)))) @DN ?_|exact ax (ga @c (ga @g (ga @b (ga @e @f)))) @DN|fail
  ·all_goals(simp_all[gG,cG];try exact cB)
  ·rename_i hc;rw[gG,if_neg (by simpa using hc),←kT hk]at a;exact⟨m-1,k+1,by omega,rfl,by omega,a⟩
 ·have c:decide (((k+1:Nat):Int)<(l.length:Int))=false:=by simp;omega
  have d:gG (l.drop k)=true:=by
   have:(l.drop k).length≤1:=by rw[aA];omega
   match l.drop k,this with
   |[],_=>rfl
   |[_],_=>rfl
  rw[d]at a;refine aO @c ab ?_
  all_goals(simp_all[a,cG];try exact cB)
theorem KE(x:af): ∀(l:List af) (k:Nat),k≤jE x l k∧jE x l k≤k+l.length
 |[],k=>by simp[jE]
 |y::l,k=>by
  unfold jE;split
  ·have:=KE x l (k+1);simp only[aY];omega
  ·simp
theorem FK{l:List af}{x:af}{k:Nat}(h:jE x l 0=k):nX l x=if l[k]?=some x then l else l.take k++x::l.drop k:=by unfold nX;rw[h]
theorem xS(l:List af)(z:af)(o:l.length≤1000000000):aG Tryz.prog 78 [.sl 33 (l.map aj),.agg (aj z)] (.sl 33 ((nX l z).map aj)):=by
 refine aM (F:=Cj) XW (by simp[Cj]) ?_;simp only[Cj];refine aO ab ab ?_;refine aZ.over l (fun k (_:Unit)=>[(5,iN k)]) (fun _ _=>[]) (fun r _=>jE z r (l.length-r.length)) (jE z l 0) () a8 aB aB rfl (by simp) (fun k _ x hg hk b i a=> ?_) (fun _ b a=> ?_)
 ·have m:l.length-(x::l.drop (k+1)).length=k:=by simp only[aY,aA];omega
  have n:l.length-(l.drop (k+1)).length=k+1:=by simp only[aA];omega
  rw[m,jE]at a;have c:(k:Int)≤(l.length:Int):=by omega
  have d:bw (l.take k).length 40=true:=by simp only[bw,decide_eq_true_eq,ck];omega
  have r2:bw ((l.take k).length+1) 40=true:=by simp only[bw,decide_eq_true_eq,ck];omega
  have j:bw ((l.take k).length+1+(l.length-k)) 40=true:=by simp only[bw,decide_eq_true_eq,ck];omega
  repeat' first|simp only[sd]|refine ae (fun _=> ?_) fun _=> ?_|refine ay (ga @b (ga @i (ga @hg (ga @c (ga @d (ga @r2 @j)))))) @DN ?_|exact ax (ga @b (ga @i (ga @hg (ga @c (ga @d (ga @r2 @j)))))) @DN|fail
  ·rename_i h;rw[if_pos h]at a;exact⟨(),by rw[a];congr 1;omega⟩
  ·rename_i e f;rw[if_neg e]at a;rw[FK a,hg,if_pos (by rw[f])]
  ·rename_i e f;rw[if_neg e]at a;rw[FK a,hg,if_neg (by simpa using f)];simp[GQ]
 ·have c:bw l.length 40=true:=by simp only[bw,decide_eq_true_eq];omega
  have d:bw (l.length+1) 40=true:=by simp only[bw,decide_eq_true_eq];omega
  have g:jE z l 0=l.length:=by rw[a];simp[jE]
  repeat' first|simp only[sd,wc]|refine ae (fun _=> ?_) fun _=> ?_|refine ay (ga @b (ga @c (ga @d @jl))) ab ?_|exact ax (ga @b (ga @c (ga @d @jl))) ab|fail
  rw[FK g,iA (bk _),if_neg (by simp)];simp
end Go.Proofs.Q
