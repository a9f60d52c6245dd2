/- Part of a proof. -/
import Derived.Test.YtfoljakejdgfcaaGreatDoorPAZ
import Derived.Test.YtfoljakejdgfcaaGreatDoorPAY
set_option linter.unusedVariables false
set_option linter.unusedSimpArgs false
namespace Go.Proofs.Q
open Go Go.Bb Go.RowKit Go.Proofs.Lg
open Go.Ab (D RD)
def oG(v:Int):List Int→Nat→Int
 |[],_=> -1
 |y::l,k=>if v=y then(k:Int)else oG v l (k+1)
def sq(l:List Int):D:= .sl 1 (l.map fun n=>[dI n])
theorem Hp(v:Int): ∀(l:List Int) (k:Nat),decide (oG v l k≥0)=decide (v∈l)
 |[],k=>by simp[oG]
 |y::l,k=>by
  rw[oG];by_cases h:v=y
  ·rw[if_pos h];simp[h]
  ·rw[if_neg h,Hp v l (k+1)];simp[h]
theorem Py(l:List Int)(v:Int):aE Tryz.prog 268 [sq l,dI v] (dI (oG v l 0)):=by
 unfold sq;refine aE.big (enters_of IM) 0 rfl fun c=> ?_;rw[aL]at c;refine aI (F:=yE) IM (by simp[yE]) ?_;simp only[yE];refine aw trivial trivial ?_
 refine aX.over l (fun k (_:Unit)=>[(8,iN k)]) (fun _ _=>[]) (fun r _=>oG v r (l.length-r.length)) (oG v l 0) () c aA aA rfl (by rw[ia]) (fun k _ x hg g b d a=> ?_) (fun _ b a=> ?_)
 ·have e:l.length-(x::l.drop (k+1)).length=k:=by rw[aU,ax];omega
  have f:l.length-(l.length-(k+1))=k+1:=by omega
  rw[e,oG]at a
  repeat' first|refine ak (fun _=> ?_) fun _=> ?_|refine bb (ga @b (ga @d @hg)) trivial ?_|exact ba (ga @b (ga @d @hg)) trivial|fail
  ·rename_i h;rw[if_pos (by simpa using h)]at a;exact a.symm
  ·rename_i h;rw[if_neg (by simpa using h)]at a;exact⟨(),by rw[f];exact a⟩
 ·rw[oG]at a;refine aw @b trivial ?_;exact a.symm
theorem Oa(l:List Int)(v:Int):aE Tryz.prog 234 [sq l,dI v] (dB (decide (v∈l))):=by
 have c:=Py l v;have e:=Hp v l 0;unfold sq at c⊢;refine aI (F:=yA) Rt (by simp[yA]) ?_;simp only[yA]
 repeat' first|refine ak (fun _=> ?_) fun _=> ?_|refine bb @e @c ?_|exact ba @e @c|fail
 all_goals simp_all
theorem ql(l:List Int)(k:Int)(i:Nat)(s:List aa)(a:s[i]?=some (.cells [.d (dI k)])):aT Tryz.prog 233 [.d (sq l),.ptr i 0] s fun d b=>d= .d (dB (decide (k∈l)))∧b=s:=by
 have c:=Oa l k;unfold sq at c⊢;refine aT.of (F:=zE) Sq (by simp[zE]) ?_;simp only[zE]
 repeat' first|refine ak (fun _=> ?_) fun _=> ?_|refine bb (ga @a @wj) @c ?_|exact ba (ga @a @wj) @c|fail
 all_goals simp_all
theorem PG(n:Int):aE Tryz.prog 198 [dI n] (dB false):=by
 refine aI (F:=yN) RG (by simp[yN]) ?_;simp only[yN];exact bx trivial trivial
theorem NW(a b:Int):aE Tryz.prog 142 [dI a,dI b] (dI (if a<b then-1 else if b<a then 1 else 0)):=by
 refine aI (F:=yI) Rz (by simp[yI]) ?_;simp only[yI]
 repeat' first|refine ak (fun _=> ?_) fun _=> ?_|refine aD ?_|refine aj.data (PG _) rfl ?_|simp only[gt_iff_lt,wy,qg,aC,reduceCtorEq,reduceIte,Nat.reduceAdd,Nat.reduceMul,Nat.reduceEqDiff,Nat.reduceLT,Nat.reduceLeDiff,Nat.reduceSub,ax,aB,ay,au]
 all_goals first|(simp_all;done)|(rw[if_neg a8,if_neg a8])
theorem Hb(x:ar):List.drop 0 (ab x)=ab x:=rfl
theorem Lf(x:ar):chunk 1 (Int.toNat 32-Int.toNat 0) (List.take (Int.toNat 32-Int.toNat 0) (List.drop (Int.toNat 0) (ab x)))=(aq x.p).map fun y=>[y]:=by
 have h:List.take (Int.toNat 32-Int.toNat 0) (List.drop (Int.toNat 0) (ab x))=(aq x.p).take 32:=by
  show(ab x).take 32=_;unfold ab;rw[qu]
  first|exact Km _ _|(rw[gf (by rw[bc];exact bh _)];exact qu _)
 rw[h,qu];show chunk 1 32 _=_;rw[D1 32 _ (bc _)]
theorem Uc(a b:ar):aE Tryz.prog 97 [.agg (ab a),.agg (ab b)] (dI (en a b)):=by
 refine aI (F:=yX) RR (by simp[yX]) ?_;simp only[yX]
 repeat' first|refine ak (fun _=> ?_) fun _=> ?_|refine aD ?_|refine aj.data (Gh _ _) rfl ?_|refine aj.data (NW _ _) rfl ?_|simp only[C2,Lf,Hb,aM,bne_iff_ne,wy,qg,aC,reduceCtorEq,reduceIte,Nat.reduceAdd,Nat.reduceMul,Nat.reduceEqDiff,Nat.reduceLT,Nat.reduceLeDiff,Nat.reduceSub,ax,aB,ay,au]
 all_goals simp_all[en]
end Go.Proofs.Q
