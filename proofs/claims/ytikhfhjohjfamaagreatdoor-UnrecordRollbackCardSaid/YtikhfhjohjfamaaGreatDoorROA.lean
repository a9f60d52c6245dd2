/- Lemmas. -/
import Derived.Test.YtikhfhjohjfamaaGreatDoorTie
import Derived.Test.YtikhfhjohjfamaaGreatDoorCards
import Derived.ShutString
import Derived.LaidMore
import Derived.LaidSub
import Derived.Lay
import Derived.SevenTiedAt
import Derived.Stop.Joined
import Derived.Laws.IdiomArrays
import Derived.ChangeOld
import Derived.Below
import Derived.Lib.LaidTab
import Derived.Test.YtikhfhjohjfamaaGreatDoorPW
import Derived.Test.YtikhfhjohjfamaaGreatDoorPBU
set_option linter.unusedVariables false
set_option linter.unusedSimpArgs false
set_option maxRecDepth 100000
namespace Go.Proofs.Q
open Go Go.RowKit Go.Bb Go.Proofs.Lg
open Go.Ab (RD D)
theorem unrecordRollback_walk{W:World}(p:GW W.heap.size W){j k l:Value}{s:ar}(h:u0 s){d:Dg}{m:Meta}(n:m.author.size<=maxLen/\m.message.size<=maxLen)(c:RD (Go.Bb.cellsIn W) W j (.sl 37 (s.map aX)))(f:RD (Go.Bb.cellsIn W) W k (.agg (au d)))(g:RD (Go.Bb.cellsIn W) W l (.agg (eS m))):
  Calls Tryz.prog 8 #[j,k,l] W λe o=>e= .returned (.bool true)/\Below W.heap.size W o:=by
 refine((a0V a0O s h d m n.1 n.2).calls (Go.Bb.cellsIn W) W [j,k,l] rfl (λi v d a b=> ?_) p).mono λe w t=> ?_
 .match i with
  |0=>simp at a b;subst a;subst b;exact c
  |1=>simp at a b;subst a;subst b;exact f
  |2=>simp at a b;subst a;subst b;exact g
  |i+3=>simp at a
 .obtain⟨v,r,u,q⟩:=t;have:v= .bool true:=by cases u;rfl
  subst this;exact⟨r,q⟩
end Go.Proofs.Q
namespace Go.Proofs.YtikhfhjohjfamaaGreatDoor
open Go.ChangeShapes Go.WideShapes Go.ChangeAt Go.RowKit Go.Proofs.Lg Go.Bb
open Go.Proofs.Q (YL a07 aX zB DY au av aK eS unrecordRollback_walk)
theorem own:ownKnob Tryz.prog.godebug=none:=by kernel_rfl
theorem laidOut:laidOutB Tryz.prog=true:=by kernel_rfl
theorem ao{l:List (String×DataW Unit)}{w:World}(i:l=Rows.unrecordRollbackRow.laid)(h:laidMetH Tryz.prog l w):GW w.heap.size w:=by
 have b:=h.filter λx=>x.1== "internal/strconv.uint64pow10";rw[i]at b;have f:laidMet Tryz.prog [("internal/strconv.uint64pow10",Lib.tabData .u64 F5)] w:=by
  rw[MakeChecks.laidMetH_plain _ _ _ (by kernel_rfl)]at b;exact b
 have a:Lib.TabIs Tryz.prog w "internal/strconv.uint64pow10" .u64 F5:=Lib.tabIs_of_head (g:=1) (by kernel_rfl) (by kernel_rfl) Tryz.underlying375 Tryz.underlying245 (by kernel_rfl) (by kernel_rfl) f;intro p d;simp only[Jq,jH]at d;subst d;unfold Lib.TabIs World.var? at a
 rw[show Tryz.prog.globalNamed "internal/strconv.uint64pow10"=some 1 by kernel_rfl,eE]at a;dsimp only;split at a
 .rename_i j t e c;obtain rfl:=aJ a;exact⟨(gy.1 c).1,t,e,c⟩
 .cases a
set_option maxRecDepth 100000 in
theorem unrecordRollback_lifted(os:Os)(started:os.Started)(H:Type)(enc:TypeId×Value->H):
  ReturnsInHanded {} Tryz.checked os 8 .any (λw a=>(Rows.unrecordRollbackSpec.pre enc Tryz.prog Tryz.f8 Rows.unrecordRollbackRow.domain false w a/\laidMetH Tryz.prog Rows.unrecordRollbackRow.laid w)/\sizedMet enc Tryz.prog Tryz.f8 (OpenSpec.ofChange Rows.unrecordRollbackSpec) false w a)
   (Rows.unrecordRollbackSpec.post enc Tryz.prog Tryz.f8 false true false false):=by
 refine returnsInHanded_of_change_and (C:=Tryz.checked) (X:=λw _=>laidMetH Tryz.prog Rows.unrecordRollbackRow.laid w) (λ_ _ _ Z h=>h.of_heap Z) own started (by kernel_rfl) Tryz.func8
  (ChangeSpec.witness_shaped (enc:=enc) (C:=Tryz.checked) (os:=os) (X:=λw _=>laidMetH Tryz.prog Rows.unrecordRollbackRow.laid w) false (World.laidAll Tryz.prog os Rows.unrecordRollbackRow.laid) #[.slice none 0 0,.agg (Array.replicate 32 (.int .u8 0)),.agg #[.string ⟨#[]⟩,.string ⟨#[]⟩,.int .i64 0]] 8 (World.laidAll_os _ _ _)
   (World.shaped_of_ZipB (by kernel_rfl) (by kernel_rfl)) (by kernel_rfl) (by kernel_rfl) (by kernel_rfl)
   (by rw[MakeChecks.laidMetH_plain _ _ _ (by kernel_rfl)];exact laidMet_laidAll _ (by kernel_rfl) (by kernel_rfl))) ?_
 intro W i a N gs before c F hc _ U _;have b: ∀(j:Nat) t v,Tryz.f8.params[j]?=some t->a[j]?=some v->Value.okWide Tryz.prog W .any i t v:=c;have r:=F;obtain⟨p,q,k,V,rfl,_,_⟩:=F;have E:DataW.TrodAll enc Tryz.prog W 0 (λ_=>true) true Tryz.f8.params.toList a.toList N p:=k;rw[Tryz.params8]at E b
 obtain⟨K,a0,d0,O,p0,q0,l,rfl,rfl,A,r0⟩:=trodAll_cons E;obtain⟨L,a1,d1,P,p1,q1,n,rfl,rfl,B,r1⟩:=trodAll_cons r0;obtain⟨M,a2,d2,Q,p2,q2,o,rfl,rfl,D,r2⟩:=trodAll_cons r1;obtain⟨rfl,rfl,rfl⟩:=trodAll_nil r2;obtain rfl:a= #[K,L,M]:=by cases a;simp_all
 obtain⟨rfl,rfl⟩:=trodVars_none V;have G:=A;have I:=B;have J:=D;have u: ∀x∈p0,x.block<W.heap.size:=by obtain⟨m,g⟩:=G;exact DataW.trod_lt m _ _ _ g
 have y: ∀x∈p1,x.block<W.heap.size:=by obtain⟨m,g⟩:=I;exact DataW.trod_lt m _ _ _ g
 have z: ∀x∈p2,x.block<W.heap.size:=by obtain⟨m,g⟩:=J;exact DataW.trod_lt m _ _ _ g
 obtain⟨x0,R,o0⟩:=a06 Tryz.underlying23 (show tF Tryz.prog 12 23=some [YL] by kernel_rfl) (b 0 23 K rfl rfl) A;obtain⟨s,rfl,hs⟩:=a07 o0;obtain⟨x1,S,o1⟩:=a05 (.inr ⟨_,_,Tryz.underlying30⟩) (show tF Tryz.prog 12 30=some zB by kernel_rfl) (b 1 30 L rfl rfl) B;obtain⟨d,rfl⟩:=DY o1
 obtain⟨x2,T,o2⟩:=a05 (.inl ⟨_,Tryz.underlying58⟩) (show tF Tryz.prog 12 58=some av by kernel_rfl) (b 2 58 M rfl rfl) D;obtain⟨m,rfl,g⟩:=aK o2;clear k c;refine(unrecordRollback_walk (ao rfl U) hs g R S T).mono λe W' ⟨Y,f⟩=> ?_;subst Y
 exact⟨_,rfl,_,_,_,[],_,[],r,trodAll_mk1 (shut_bool Tryz.underlying4 _),(trodAll_cons_mk (Below.trod laidOut (by kernel_rfl) (of_decide_eq_true (by kernel_rfl)) G f u) (trodAll_cons_mk (Below.trod laidOut (by kernel_rfl) (of_decide_eq_true (by kernel_rfl)) I f y) (trodAll_cons_mk (Below.trod laidOut (by kernel_rfl) (of_decide_eq_true (by kernel_rfl)) J f z) trodAll_mk0))),rfl,f.frame _,λh=>by cases h⟩
end Go.Proofs.YtikhfhjohjfamaaGreatDoor
