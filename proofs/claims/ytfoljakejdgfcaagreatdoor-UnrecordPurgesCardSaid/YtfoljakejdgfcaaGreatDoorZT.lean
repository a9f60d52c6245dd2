/- Part of a proof. -/
import Derived.Test.YtfoljakejdgfcaaGreatDoorPBA
set_option linter.unusedVariables false
set_option linter.unusedSimpArgs false
namespace Go.Proofs.Q
open Go Go.Bb Go.RowKit Go.Proofs.Lg
open Go.Ab (D RD)
theorem U3(a b v:AV):aV [a,b] 0 1 [v]=some [v,b]:=rfl
theorem U4(a b v:AV):aV [a,b] 1 1 [v]=some [a,v]:=rfl
theorem U5(a b c d e v:AV):aV [a,b,c,d,e] 0 1 [v]=some [v,b,c,d,e]:=rfl
theorem U6(a b c d e v:AV):aV [a,b,c,d,e] 1 1 [v]=some [a,v,c,d,e]:=rfl
theorem U7(a b c d e v:AV):aV [a,b,c,d,e] 2 1 [v]=some [a,b,v,d,e]:=rfl
theorem U8(a b c d e v:AV):aV [a,b,c,d,e] 3 1 [v]=some [a,b,c,v,e]:=rfl
theorem U9(a b c d e v:AV):aV [a,b,c,d,e] 4 1 [v]=some [a,b,c,d,v]:=rfl
set_option maxRecDepth 20000 in
set_option maxHeartbeats 4000000 in
theorem Uw(c:af)(k:1≤c.kind)(l:c.kind≤7):aE Tryz.prog 180 [.agg (aQ c)] (dB (mK c)):=by
 have b:=ql [1] c.kind;have d:=ql [2,3,4,5,6] c.kind;have e:=ql [2] c.kind;have f:=ql [3] c.kind;have g:=ql [4] c.kind;have h:=ql [5,6] c.kind;have i:=ql [5] c.kind;have j:=ql [2,3,4,6,7] c.kind;simp only[sq,List.map]at b d e f g h i j
 obtain a|a|a|a|a|a|a:c.kind=1∨c.kind=2∨c.kind=3∨c.kind=4∨c.kind=5∨c.kind=6∨c.kind=7:=by omega
 all_goals
  clear k l;simp only[a,bY,List.not_mem_nil,or_false,Int.reduceEq,or_self,or_true,true_or,decide_true,decide_false]at b d e f g h i j;refine aI (F:=zD) Sp (by simp[zD]) ?_;simp only[zD]
  repeat' first|refine ak (fun _=> ?_) fun _=> ?_|refine aD ?_|(refine aj.fn ((b _ _ rfl).mono ?_);rintro _ _ ⟨rfl,rfl⟩)|(refine aj.fn ((d _ _ rfl).mono ?_);rintro _ _ ⟨rfl,rfl⟩)|(refine aj.fn ((e _ _ rfl).mono ?_);rintro _ _ ⟨rfl,rfl⟩)|(refine aj.fn ((f _ _ rfl).mono ?_);rintro _ _ ⟨rfl,rfl⟩)|(refine aj.fn ((g _ _ rfl).mono ?_);rintro _ _ ⟨rfl,rfl⟩)|(refine aj.fn ((h _ _ rfl).mono ?_);rintro _ _ ⟨rfl,rfl⟩)|(refine aj.fn ((i _ _ rfl).mono ?_);rintro _ _ ⟨rfl,rfl⟩)|(refine aj.fn ((j _ _ rfl).mono ?_);rintro _ _ ⟨rfl,rfl⟩)|simp only[a,dN,aM,aL,wj,jY,U3,U4,U5,U6,U7,U8,U9,wy,qg,aC,reduceCtorEq,reduceIte,Nat.reduceAdd,Nat.reduceMul,Nat.reduceEqDiff,Nat.reduceLT,Nat.reduceLeDiff,Nat.reduceSub,ax,aB,ay,au]
  all_goals(clear b d e f g h i j;simp_all[mK])
end Go.Proofs.Q
