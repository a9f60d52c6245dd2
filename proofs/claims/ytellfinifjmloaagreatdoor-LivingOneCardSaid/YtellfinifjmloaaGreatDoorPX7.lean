/- Lemmas. -/
import Derived.Test.YtellfinifjmloaaGreatDoorPX6
import Derived.Test.YtellfinifjmloaaGreatDoorPX5
import Derived.Test.YtellfinifjmloaaGreatDoorTie
import Derived.Test.YtellfinifjmloaaGreatDoorCards
import Derived.ShutString
import Derived.LaidMore
import Derived.LaidSub
import Derived.Lay
import Derived.SevenTiedAt
import Derived.Stop.Joined
import Derived.Laws.IdiomArrays
import Derived.ChangeOld
import Derived.Below
import Derived.Lib.LaidTab
set_option linter.unusedVariables false
set_option linter.unusedSimpArgs false
namespace Go.Proofs.Q
open Go Go.Ab Go.Bb
def sN:CF:=⟨54, (kq [ox 3 1,kM 4 xF] (.seq (kq [om 9 0,o6 10 11 [.t 9],o0 11 (.not (.t 10))] (kd 11 (kq [o6 12 12 [],om 4 12] .ret) .skip)) (kq [om 14 0,o2 15 33 3,o6 16 13 [.t 14,.t 15],om 13 16,oe 17 13 0,oe 18 13 1,kB 5 dZ,o8 172 5 17,om 6 18] (kq [om 20 0,o2 21 33 3,o6 22 14 [.t 20,.t 21],om 19 22,oe 23 19 0,oe 24 19 1,kB 7 dZ,o8 172 7 23,om 8 24] (.seq (.ops true [0,0,3,7,15,15,63,127,255,511,511,2047,511,511,16383,32767,65535,131071,262143,262143,1048575,262143,262143,8388607,16777215,33554431,67108863,134217727,268435455,536870911] [o2 25 172 5,o2 26 172 7,o6 27 15 [.t 25,.t 26],om 28 27,oh 29 28 true 6,oh 30 28 true 8,og 31 28 true (.eqa false [.b] false (.t 29) (.t 30)),kP 32 28 31,om 33 32,oh 34 33 true 0,og 35 33 true (.ld (some 33) (.t 3)),og 36 33 true (.call (.fn 16) [.t 34,.t 35]),oh 37 33 true 0,og 38 33 true (.ld (some 33) (.t 3)),og 39 33 true (.call (.fn 17) [.t 37,.t 38]),og 40 33 true (.eqa false [.b] false (.t 36) (.t 39)),kP 41 33 40,om 42 41,oh 43 42 true 0,og 44 42 true (.ld (some 33) (.t 3)),og 45 42 true (.call (.fn 19) [.t 43,.t 44]),oh 46 42 true 0,og 47 42 true (.ld (some 33) (.t 3)),og 48 42 true (.call (.fn 20) [.t 46,.t 47]),og 49 42 true (.call (.fn 18) [.t 45,.t 48]),kP 50 42 49,om 51 50,og 52 51 true (.call (.fn 12) []),kP 53 51 52,om 4 53]) .ret))))),[.tmp 4]⟩
theorem Mb:aN Tryz.prog [100003] 3=some sN.erase:=by kernel_rfl
end Go.Proofs.Q
namespace Go.Proofs.Q
open Go Go.Bb Go.RowKit Go.Proofs.Lg
open Go.Ab (D RD)
set_option maxHeartbeats 2000000 in
set_option maxRecDepth 20000 in
theorem TK(e:aG Tryz.prog 12 [] (dB true))(s:aD)(h:iY s)(i:af):aG Tryz.prog 3 [.sl 37 (s.map b5),.agg (aj i)] (dB true):=by
 have g:=uQ h;by_cases d:ia ar s=true
 ·obtain⟨G,u⟩:=fc.fine h d;have j:=(Fy h d).1;have f:=G.v;rw[d]at g;have k:=FY s a8 G.pat i;rw[Fu f]at k;have p:=NH s j a8 i;have l:=Nu ((j5 (fP ar s) i).getD .zero) ((j5 (fP ar s) i).getD .zero);rw[decide_eq_true rfl]at l;have m:=G.alive i;rw[ka f]at m
  have q:=a0q s j a8 i;have n:=L8 s G.len G.pat (fun x _=>xA _) f i;rw[KT f]at n;have r:=a0r s j a8 i;have o:=Gx (rf ar s i) (rf ar s i);rw[decide_eq_true rfl]at o;obtain⟨a,ha⟩: ∃a,a=(j5 (fP ar s) i).getD .zero:=⟨_,rfl⟩
  obtain⟨b,hb⟩: ∃a,a=(j5 (fP ar s) i).isSome:=⟨_,rfl⟩
  obtain⟨c,hc⟩: ∃a,a=eR ar s i:=⟨_,rfl⟩
  obtain⟨K,t⟩: ∃a,a=rf ar s i:=⟨_,rfl⟩
  rw[←ha,←hb]at k p;rw[←ha]at l;rw[←hc]at m q;rw[←t]at n r o;clear ha hb hc t d f j u h G;cases b<;>cases c
  all_goals
   refine aM (F:=sN) Mb (by simp[sN]) ?_;simp only[sN]
   repeat' first|refine ae (fun _=> ?_) fun _=> ?_|refine aL ?_|refine aq.data (g) rfl ?_|refine aq.data (k) rfl ?_|refine aq.data (p) rfl ?_|refine aq.data (l) rfl ?_|refine aq.data (m) rfl ?_|refine aq.data (q) rfl ?_|refine aq.data (n) rfl ?_|refine aq.data (r) rfl ?_|refine aq.data (o) rfl ?_|refine aq.data (e) rfl ?_|simp only[xm,wU,wS,wV,wT,bb,az,bz,aQ,wj,wy,qg,aH,reduceCtorEq,reduceIte,Nat.reduceAdd,Nat.reduceMul,Nat.reduceEqDiff,Nat.reduceLT,Nat.reduceLeDiff,Nat.reduceSub,aA,aF,aE,aw]
   all_goals first|rfl|trace_state
 ·have d:ia ar s=false:=by simpa using d
  rw[d]at g;refine aM (F:=sN) Mb (by simp[sN]) ?_;simp only[sN]
  repeat' first|refine ae (fun _=> ?_) fun _=> ?_|refine aL ?_|refine aq.data (g) rfl ?_|refine aq.data (e) rfl ?_|simp only[az,aQ,wj,wy,qg,aH,reduceCtorEq,reduceIte,Nat.reduceAdd,Nat.reduceMul,Nat.reduceEqDiff,Nat.reduceLT,Nat.reduceLeDiff,Nat.reduceSub,aA,aF,aE,aw]
  all_goals first|rfl|trace_state
end Go.Proofs.Q
namespace Go.Proofs.Q
open Go Go.RowKit Go.Bb Go.Proofs.Lg
open Go.Ab (RD D)
theorem Lc{W:World}(k:GW W.heap.size W){v0 g:Value}{s:aD}(h:iY s){i:af}(c:RD (Go.Bb.cellsIn W) W v0 (.sl 37 (s.map b5)))(f:RD (Go.Bb.cellsIn W) W g (.agg (aj i))):
  Calls Tryz.prog 3 #[v0,g] W fun e j=>e= .returned (.bool true)∧Below W.heap.size W j:=by
 refine((TK uD s h i).calls (Go.Bb.cellsIn W) W [v0,g] rfl (fun i v d a b=> ?_) k).mono fun e w' m=> ?_
 ·match i with
  |0=>simp at a b;subst a;subst b;exact c
  |1=>simp at a b;subst a;subst b;exact f
  |i+2=>simp at a
 ·obtain⟨v,l,n,hb⟩:=m;have:v= .bool true:=by cases n;rfl
  subst this;exact⟨l,hb⟩
end Go.Proofs.Q
namespace Go.Proofs.YtellfinifjmloaaGreatDoor
open Go.ChangeShapes Go.WideShapes Go.ChangeAt Go.RowKit Go.Proofs.Lg Go.Bb
open Go.Proofs.Q (mz nu b5 oD sH aj Lc)
theorem own:ownKnob Tryz.prog.godebug=none:=by kernel_rfl
theorem laidOut:laidOutB Tryz.prog=true:=by kernel_rfl
theorem nV{l:List (String×DataW Unit)}{w:World}(d:l=Rows.livingOneRow.laid)(h:laidMetH Tryz.prog l w):GW w.heap.size w:=by
 have b:=h.filter fun x=>x.1== "internal/strconv.uint64pow10";rw[d]at b;have c:laidMet Tryz.prog [("internal/strconv.uint64pow10",Lib.tabData .u64 kE)] w:=by
  rw[MakeChecks.laidMetH_plain _ _ _ (by kernel_rfl)]at b;exact b
 have a:Lib.TabIs Tryz.prog w "internal/strconv.uint64pow10" .u64 kE:=Lib.tabIs_of_head (g:=1) (by kernel_rfl) (by kernel_rfl) Tryz.underlying312 Tryz.underlying176 (by kernel_rfl) (by kernel_rfl) c;intro p hp;simp only[r9,iB]at hp;subst hp;unfold Lib.TabIs World.var? at a
 rw[show Tryz.prog.globalNamed "internal/strconv.uint64pow10"=some 1 by kernel_rfl,dP]at a;dsimp only;split at a
 ·rename_i cs t fz hg;obtain rfl:=aJ a;exact⟨(fB.1 hg).1,t,fz,hg⟩
 ·cases a
set_option maxRecDepth 100000 in
theorem Un(os:Os)(started:os.Started)(H:Type)(enc:TypeId×Value→H):
  ReturnsInHanded {} Tryz.checked os 3 .any (fun w args=>(Rows.livingOneSpec.pre enc Tryz.prog Tryz.f3 Rows.livingOneRow.domain false w args∧laidMetH Tryz.prog Rows.livingOneRow.laid w)∧sizedMet enc Tryz.prog Tryz.f3 (OpenSpec.ofChange Rows.livingOneSpec) false w args)
   (Rows.livingOneSpec.post enc Tryz.prog Tryz.f3 false true false false):=by
 refine returnsInHanded_of_change_and (C:=Tryz.checked) (X:=fun w _=>laidMetH Tryz.prog Rows.livingOneRow.laid w) (fun _ _ _ M h=>h.of_heap M) own started (by kernel_rfl) Tryz.func3
  (ChangeSpec.witness_shaped (enc:=enc) (C:=Tryz.checked) (os:=os) (X:=fun w _=>laidMetH Tryz.prog Rows.livingOneRow.laid w) false (World.laidAll Tryz.prog os Rows.livingOneRow.laid) #[.slice none 0 0,.agg ((Array.replicate 32 (.int .u8 0)).push (.int .i64 0))] 8 (World.laidAll_os _ _ _)
   (World.shaped_of_ZipB (by kernel_rfl) (by kernel_rfl)) (by kernel_rfl) (by kernel_rfl) (by kernel_rfl)
   (by rw[MakeChecks.laidMetH_plain _ _ _ (by kernel_rfl)];exact laidMet_laidAll _ (by kernel_rfl) (by kernel_rfl))) ?_
 intro W base args ds Z before b z hc _ J _;have a: ∀(j:Nat) t v,Tryz.f3.params[j]?=some t→args[j]?=some v→Value.okWide Tryz.prog W .any base t v:=b;have k:=z;obtain⟨p,q,d,K,rfl,_,_⟩:=z;have y:DataW.TrodAll enc Tryz.prog W 0 (fun _=>true) true Tryz.f3.params.toList args.toList ds p:=d;rw[Tryz.params3]at y a
 obtain⟨v0,S,V,E,O,q0,f,rfl,rfl,r,Q⟩:=trodAll_cons y;obtain⟨D,T,Y,F,P,q1,g,rfl,rfl,u,R⟩:=trodAll_cons Q;obtain⟨rfl,rfl,rfl⟩:=trodAll_nil R;obtain rfl:args= #[v0,D]:=by cases args;simp_all
 obtain⟨rfl,rfl⟩:=trodVars_none K;have A:=r;have B:=u;have l: ∀x∈O,x.block<W.heap.size:=by obtain⟨m,hm⟩:=A;exact DataW.trod_lt m _ _ _ hm
 have o: ∀x∈P,x.block<W.heap.size:=by obtain⟨m,hm⟩:=B;exact DataW.trod_lt m _ _ _ hm
 obtain⟨x0,G,o0⟩:=tM (n:=12) (sh:=mz) Tryz.underlying23 (by kernel_rfl) (a 0 23 v0 rfl rfl) r;obtain⟨s,rfl,N⟩:=nu o0;obtain⟨x1,I,o1⟩:=DW (n:=12) (shs:=oD) (.inl ⟨_,Tryz.underlying27⟩) (by kernel_rfl) (a 1 27 D rfl rfl) u;obtain⟨i,rfl⟩:=sH o1;clear d b;refine(Lc (nV rfl J) N G I).mono fun e U ⟨L,c⟩=> ?_;subst L
 exact⟨_,rfl,_,_,_,[],_,[],k,trodAll_mk1 (shut_bool Tryz.underlying4 _),(trodAll_cons_mk (Below.trod laidOut (by kernel_rfl) (of_decide_eq_true (by kernel_rfl)) A c l) (trodAll_cons_mk (Below.trod laidOut (by kernel_rfl) (of_decide_eq_true (by kernel_rfl)) B c o) trodAll_mk0)),rfl,c.frame _,fun h=>by cases h⟩
end Go.Proofs.YtellfinifjmloaaGreatDoor
