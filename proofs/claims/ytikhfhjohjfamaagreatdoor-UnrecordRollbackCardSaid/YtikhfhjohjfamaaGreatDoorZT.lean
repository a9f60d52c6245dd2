/- Lemmas. -/
import Derived.Test.YtikhfhjohjfamaaGreatDoorPAS
set_option linter.unusedVariables false
set_option linter.unusedSimpArgs false
set_option maxRecDepth 100000
namespace Go.Proofs.Q
open Go Go.Bb Go.RowKit Go.Proofs.Lg
open Go.Ab (D RD)
theorem Up(a b v:AV):ba [a,b] 0 1 [v]=some [v,b]:=rfl
theorem Uq(a b v:AV):ba [a,b] 1 1 [v]=some [a,v]:=rfl
theorem Ur(a b c d e v:AV):ba [a,b,c,d,e] 0 1 [v]=some [v,b,c,d,e]:=rfl
theorem Us(a b c d e v:AV):ba [a,b,c,d,e] 1 1 [v]=some [a,v,c,d,e]:=rfl
theorem Ut(a b c d e v:AV):ba [a,b,c,d,e] 2 1 [v]=some [a,b,v,d,e]:=rfl
theorem Uu(a b c d e v:AV):ba [a,b,c,d,e] 3 1 [v]=some [a,b,c,v,e]:=rfl
theorem Uv(a b c d e v:AV):ba [a,b,c,d,e] 4 1 [v]=some [a,b,c,d,v]:=rfl
set_option maxHeartbeats 4000000 in
theorem UP(c:az)(j:1<=c.kind)(k:c.kind<=7):aI Tryz.prog 290 [.agg (aR c)] (dB (lX c)):=by
 have a:=tc [1] c.kind;have b:=tc [2,3,4,5,6] c.kind;have d:=tc [2] c.kind;have e:=tc [3] c.kind;have f:=tc [4] c.kind;have g:=tc [5,6] c.kind;have h:=tc [5] c.kind;have i:=tc [2,3,4,6,7] c.kind;simp only[uL,List.map]at a b d e f g h i
 obtain hk|hk|hk|hk|hk|hk|hk:c.kind=1\/c.kind=2\/c.kind=3\/c.kind=4\/c.kind=5\/c.kind=6\/c.kind=7:=by omega
 all_goals
  clear j k;simp only[hk,bF,List.not_mem_nil,or_false,Int.reduceEq,or_self,or_true,true_or,decide_true,decide_false]at a b d e f g h i;refine aL Tryz.f290 ?_ [100001,300009,100011,100020,100031,100047,100057,100067,100084,100095]
  repeat' first|refine ab (λ_=> ?_) λ_=> ?_|refine aH ?_|(refine af.fn ((a _ _ rfl).mono ?_);rintro _ _ ⟨rfl,rfl⟩)|(refine af.fn ((b _ _ rfl).mono ?_);rintro _ _ ⟨rfl,rfl⟩)|(refine af.fn ((d _ _ rfl).mono ?_);rintro _ _ ⟨rfl,rfl⟩)|(refine af.fn ((e _ _ rfl).mono ?_);rintro _ _ ⟨rfl,rfl⟩)|(refine af.fn ((f _ _ rfl).mono ?_);rintro _ _ ⟨rfl,rfl⟩)|(refine af.fn ((g _ _ rfl).mono ?_);rintro _ _ ⟨rfl,rfl⟩)|(refine af.fn ((h _ _ rfl).mono ?_);rintro _ _ ⟨rfl,rfl⟩)|(refine af.fn ((i _ _ rfl).mono ?_);rintro _ _ ⟨rfl,rfl⟩)|simp only[hk,dV,aN,aM,wj,mq,Up,Uq,Ur,Us,Ut,Uu,Uv,wy,qg,aE,simprocAttr,ax,aD,aB,aw]
  all_goals(clear a b d e f g h i;simp_all[lX])
end Go.Proofs.Q
