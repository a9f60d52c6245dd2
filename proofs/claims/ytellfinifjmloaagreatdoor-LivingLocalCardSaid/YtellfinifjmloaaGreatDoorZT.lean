/- Lemmas. -/
import Derived.Test.YtellfinifjmloaaGreatDoorPAV
set_option linter.unusedVariables false
set_option linter.unusedSimpArgs false
namespace Go.Proofs.Q
open Go Go.Bb Go.RowKit Go.Proofs.Lg
open Go.Ab (D RD)
theorem YW(a b v:AV):b8 [a,b] 0 1 [v]=some [v,b]:=rfl
theorem YX(a b v:AV):b8 [a,b] 1 1 [v]=some [a,v]:=rfl
theorem YY(a b c d e v:AV):b8 [a,b,c,d,e] 0 1 [v]=some [v,b,c,d,e]:=rfl
theorem YZ(a b c d e v:AV):b8 [a,b,c,d,e] 1 1 [v]=some [a,v,c,d,e]:=rfl
theorem Z0(a b c d e v:AV):b8 [a,b,c,d,e] 2 1 [v]=some [a,b,v,d,e]:=rfl
theorem Z1(a b c d e v:AV):b8 [a,b,c,d,e] 3 1 [v]=some [a,b,c,v,e]:=rfl
theorem Z2(a b c d e v:AV):b8 [a,b,c,d,e] 4 1 [v]=some [a,b,c,d,v]:=rfl
set_option maxRecDepth 20000 in
set_option maxHeartbeats 4000000 in
theorem Zm(c:aC)(j:1≤c.kind)(k:c.kind≤7):aG Tryz.prog 185 [.agg (aV c)] (dB (nx c)):=by
 have a:=rz [1] c.kind;have b:=rz [2,3,4,5,6] c.kind;have d:=rz [2] c.kind;have e:=rz [3] c.kind;have f:=rz [4] c.kind;have g:=rz [5,6] c.kind;have h:=rz [5] c.kind;have i:=rz [2,3,4,6,7] c.kind;simp only[tL,List.map]at a b d e f g h i
 obtain hk|hk|hk|hk|hk|hk|hk:c.kind=1∨c.kind=2∨c.kind=3∨c.kind=4∨c.kind=5∨c.kind=6∨c.kind=7:=by omega
 all_goals
  clear j k;simp only[hk,bM,List.not_mem_nil,or_false,Int.reduceEq,or_self,or_true,true_or,decide_true,decide_false]at a b d e f g h i;refine aM (F:=Bx) Xd (by simp[Bx]) ?_;simp only[Bx]
  repeat' first|refine ae (fun _=> ?_) fun _=> ?_|refine aL ?_|(refine aq.fn ((a _ _ rfl).mono ?_);rintro _ _ ⟨rfl,rfl⟩)|(refine aq.fn ((b _ _ rfl).mono ?_);rintro _ _ ⟨rfl,rfl⟩)|(refine aq.fn ((d _ _ rfl).mono ?_);rintro _ _ ⟨rfl,rfl⟩)|(refine aq.fn ((e _ _ rfl).mono ?_);rintro _ _ ⟨rfl,rfl⟩)|(refine aq.fn ((f _ _ rfl).mono ?_);rintro _ _ ⟨rfl,rfl⟩)|(refine aq.fn ((g _ _ rfl).mono ?_);rintro _ _ ⟨rfl,rfl⟩)|(refine aq.fn ((h _ _ rfl).mono ?_);rintro _ _ ⟨rfl,rfl⟩)|(refine aq.fn ((i _ _ rfl).mono ?_);rintro _ _ ⟨rfl,rfl⟩)|simp only[hk,de,az,aQ,wj,nR,YW,YX,YY,YZ,Z0,Z1,Z2,wy,qg,aH,simprocAttr,aA,aF,aE,aw]
  all_goals(clear a b d e f g h i;simp_all[nx])
end Go.Proofs.Q
