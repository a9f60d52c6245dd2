/- Lemmas. -/
import Derived.Test.YtellfinifjmloaaGreatDoorPX3
import Derived.Test.YtellfinifjmloaaGreatDoorPX5
import Derived.Test.YtellfinifjmloaaGreatDoorTie
import Derived.Test.YtellfinifjmloaaGreatDoorCards
import Derived.ShutString
import Derived.LaidMore
import Derived.LaidSub
import Derived.Lay
import Derived.SevenTiedAt
import Derived.Stop.Joined
import Derived.Laws.IdiomArrays
import Derived.ChangeOld
import Derived.Below
import Derived.Lib.LaidTab
set_option linter.unusedVariables false
set_option linter.unusedSimpArgs false
namespace Go.Proofs.Q
open Go Go.Ab Go.Bb
def sM:CF:=⟨22, (kq [kM 2 xF] (.seq (kq [om 3 0,o6 4 11 [.t 3],o0 5 (.not (.t 4))] (kd 5 (kq [o6 6 12 [],om 2 6] .ret) .skip)) (kq [om 7 0,o6 8 33 [.t 7],om 9 0,o6 10 40 [.t 9],o6 11 39 [.t 8,.t 10],om 12 11,oh 13 12 true 0,og 14 12 true (.call (.fn 41) [.t 13]),oh 15 12 true 0,og 16 12 true (.call (.fn 42) [.t 15]),og 17 12 true (.call (.fn 18) [.t 14,.t 16]),kP 18 12 17,om 19 18,og 20 19 true (.call (.fn 12) []),kP 21 19 20,om 2 21] .ret))),[.tmp 2]⟩
theorem Ma:aN Tryz.prog [] 10=some sM.erase:=by kernel_rfl
end Go.Proofs.Q
namespace Go.Proofs.Q
open Go Go.Bb Go.RowKit Go.Proofs.Lg
open Go.Ab (D RD)
set_option maxHeartbeats 2000000 in
set_option maxRecDepth 20000 in
theorem TG(d:aG Tryz.prog 12 [] (dB true))(s:aD)(h:iY s):aG Tryz.prog 10 [.sl 37 (s.map b5)] (dB true):=by
 have e:=uQ h;by_cases c:ia ar s=true
 ·obtain⟨G,o⟩:=fc.fine h c;have l:=(Fy h c).1;have f:=G.v;rw[c]at e;have g:=G.atoms;rw[uC f]at g;have m:=Gz s l a8;have i:=ZZ (fP ar s) (fP ar s);rw[decide_eq_true rfl]at i;have j:=U8 s a8 G.pat (fun x _=>xA _) f;rw[U2 f]at j;have n:=NI s l a8
  have k:=Gx (od ar s) (od ar s);rw[decide_eq_true rfl]at k;obtain⟨a,ha⟩: ∃a,a=fP ar s:=⟨_,rfl⟩
  obtain⟨b,hb⟩: ∃a,a=od ar s:=⟨_,rfl⟩
  rw[←ha]at g m i;rw[←hb]at j n k;clear ha hb c f l o h G;refine aM (F:=sM) Ma (by simp[sM]) ?_;simp only[sM]
  repeat' first|refine ae (fun _=> ?_) fun _=> ?_|refine aL ?_|refine aq.data (e) rfl ?_|refine aq.data (g) rfl ?_|refine aq.data (m) rfl ?_|refine aq.data (i) rfl ?_|refine aq.data (j) rfl ?_|refine aq.data (n) rfl ?_|refine aq.data (k) rfl ?_|refine aq.data (d) rfl ?_|simp only[aQ,wj,wy,qg,aH,reduceCtorEq,reduceIte,Nat.reduceAdd,Nat.reduceMul,Nat.reduceEqDiff,Nat.reduceLT,Nat.reduceLeDiff,Nat.reduceSub,aA,aF,aE,aw]
  all_goals first|rfl|trace_state
 ·have c:ia ar s=false:=by simpa using c
  rw[c]at e;refine aM (F:=sM) Ma (by simp[sM]) ?_;simp only[sM]
  repeat' first|refine ae (fun _=> ?_) fun _=> ?_|refine aL ?_|refine aq.data (e) rfl ?_|refine aq.data (d) rfl ?_|simp only[aQ,wj,wy,qg,aH,reduceCtorEq,reduceIte,Nat.reduceAdd,Nat.reduceMul,Nat.reduceEqDiff,Nat.reduceLT,Nat.reduceLeDiff,Nat.reduceSub,aA,aF,aE,aw]
  all_goals first|rfl|trace_state
end Go.Proofs.Q
namespace Go.Proofs.Q
open Go Go.RowKit Go.Bb Go.Proofs.Lg
open Go.Ab (RD D)
theorem L9{W:World}(g:GW W.heap.size W){v0:Value}{s:aD}(h:iY s)(a:RD (Go.Bb.cellsIn W) W v0 (.sl 37 (s.map b5))):
  Calls Tryz.prog 10 #[v0] W fun e f=>e= .returned (.bool true)∧Below W.heap.size W f:=by
 refine((TG uD s h).calls (Go.Bb.cellsIn W) W [v0] rfl (fun i v d b c=> ?_) g).mono fun e w' k=> ?_
 ·match i with
  |0=>simp at b c;subst b;subst c;exact a
  |i+1=>simp at b
 ·obtain⟨v,j,l,hb⟩:=k;have:v= .bool true:=by cases l;rfl
  subst this;exact⟨j,hb⟩
end Go.Proofs.Q
namespace Go.Proofs.YtellfinifjmloaaGreatDoor
open Go.ChangeShapes Go.WideShapes Go.ChangeAt Go.RowKit Go.Proofs.Lg Go.Bb
open Go.Proofs.Q (mz nu b5 L9)
theorem own:ownKnob Tryz.prog.godebug=none:=by kernel_rfl
theorem laidOut:laidOutB Tryz.prog=true:=by kernel_rfl
theorem nV{l:List (String×DataW Unit)}{w:World}(d:l=Rows.livingAtomsRow.laid)(h:laidMetH Tryz.prog l w):GW w.heap.size w:=by
 have b:=h.filter fun x=>x.1== "internal/strconv.uint64pow10";rw[d]at b;have c:laidMet Tryz.prog [("internal/strconv.uint64pow10",Lib.tabData .u64 kE)] w:=by
  rw[MakeChecks.laidMetH_plain _ _ _ (by kernel_rfl)]at b;exact b
 have a:Lib.TabIs Tryz.prog w "internal/strconv.uint64pow10" .u64 kE:=Lib.tabIs_of_head (g:=1) (by kernel_rfl) (by kernel_rfl) Tryz.underlying312 Tryz.underlying176 (by kernel_rfl) (by kernel_rfl) c;intro p hp;simp only[r9,iB]at hp;subst hp;unfold Lib.TabIs World.var? at a
 rw[show Tryz.prog.globalNamed "internal/strconv.uint64pow10"=some 1 by kernel_rfl,dP]at a;dsimp only;split at a
 ·rename_i cs t fz hg;obtain rfl:=aJ a;exact⟨(fB.1 hg).1,t,fz,hg⟩
 ·cases a
set_option maxRecDepth 100000 in
theorem Ub(os:Os)(started:os.Started)(H:Type)(enc:TypeId×Value→H):
  ReturnsInHanded {} Tryz.checked os 10 .any (fun w args=>(Rows.livingAtomsSpec.pre enc Tryz.prog Tryz.f10 Rows.livingAtomsRow.domain false w args∧laidMetH Tryz.prog Rows.livingAtomsRow.laid w)∧sizedMet enc Tryz.prog Tryz.f10 (OpenSpec.ofChange Rows.livingAtomsSpec) false w args)
   (Rows.livingAtomsSpec.post enc Tryz.prog Tryz.f10 false true false false):=by
 refine returnsInHanded_of_change_and (C:=Tryz.checked) (X:=fun w _=>laidMetH Tryz.prog Rows.livingAtomsRow.laid w) (fun _ _ _ D h=>h.of_heap D) own started (by kernel_rfl) Tryz.func10
  (ChangeSpec.witness_shaped (enc:=enc) (C:=Tryz.checked) (os:=os) (X:=fun w _=>laidMetH Tryz.prog Rows.livingAtomsRow.laid w) false (World.laidAll Tryz.prog os Rows.livingAtomsRow.laid) #[.slice none 0 0] 8 (World.laidAll_os _ _ _)
   (World.shaped_of_ZipB (by kernel_rfl) (by kernel_rfl)) (by kernel_rfl) (by kernel_rfl) (by kernel_rfl)
   (by rw[MakeChecks.laidMetH_plain _ _ _ (by kernel_rfl)];exact laidMet_laidAll _ (by kernel_rfl) (by kernel_rfl))) ?_
 intro W base args ds L before a o hc _ z _;have b: ∀(j:Nat) t v,Tryz.f10.params[j]?=some t→args[j]?=some v→Value.okWide Tryz.prog W .any base t v:=a;have g:=o;obtain⟨p,q,d,A,rfl,_,_⟩:=o;have l:DataW.TrodAll enc Tryz.prog W 0 (fun _=>true) true Tryz.f10.params.toList args.toList ds p:=d;rw[Tryz.params10]at l b
 obtain⟨v0,I,K,u,F,M,f,rfl,rfl,k,G⟩:=trodAll_cons l;obtain⟨rfl,rfl,rfl⟩:=trodAll_nil G;obtain rfl:args= #[v0]:=by cases args;simp_all
 obtain⟨rfl,rfl⟩:=trodVars_none A;have r:=k;have i: ∀x∈F,x.block<W.heap.size:=by obtain⟨m,hm⟩:=r;exact DataW.trod_lt m _ _ _ hm
 obtain⟨x0,y,o0⟩:=tM (n:=12) (sh:=mz) Tryz.underlying23 (by kernel_rfl) (b 0 23 v0 rfl rfl) k;obtain⟨s,rfl,E⟩:=nu o0;clear d a;refine(L9 (nV rfl z) E y).mono fun e J ⟨B,c⟩=> ?_;subst B
 exact⟨_,rfl,_,_,_,[],_,[],g,trodAll_mk1 (shut_bool Tryz.underlying4 _),(trodAll_cons_mk (Below.trod laidOut (by kernel_rfl) (of_decide_eq_true (by kernel_rfl)) r c i) trodAll_mk0),rfl,c.frame _,fun h=>by cases h⟩
end Go.Proofs.YtellfinifjmloaaGreatDoor
