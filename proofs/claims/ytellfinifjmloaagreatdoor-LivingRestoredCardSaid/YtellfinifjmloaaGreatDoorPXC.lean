/- Lemmas. -/
import Derived.Test.YtellfinifjmloaaGreatDoorPX2
import Derived.Test.YtellfinifjmloaaGreatDoorTie
import Derived.Test.YtellfinifjmloaaGreatDoorCards
import Derived.ShutString
import Derived.LaidMore
import Derived.LaidSub
import Derived.Lay
import Derived.SevenTiedAt
import Derived.Stop.Joined
import Derived.Laws.IdiomArrays
import Derived.ChangeOld
import Derived.Below
import Derived.Lib.LaidTab
set_option linter.unusedVariables false
set_option linter.unusedSimpArgs false
namespace Go.Proofs.Q
open Go Go.Ab Go.Bb
def iI:CF:=⟨65, (kq [kM 4 xF] (.seq (kq [om 11 0,o6 12 11 [.t 11],o0 13 (.not (.t 12)),om 14 13,oh 15 14 false 0,og 16 14 false (.len 0 (.t 15)),kG 17 14 false .gtr (.t 16) (xi 6),kR 18 14 17,om 19 18,oh 20 19 false 1,og 21 19 false (.len 0 (.t 20)),kG 22 19 false .gtr (.t 21) (xi 20),kR 23 19 22] (kd 23 (kq [o6 24 12 [],om 4 24] .ret) .skip)) (kq [om 26 0,om 27 1,o6 28 36 [.t 27],o0 29 (.bsf 5 1 gy [(0,5,(.t 28))]),o6 30 32 [.t 26,.t 29],om 25 30,oe 31 25 0,oe 32 25 1,oe 33 25 2,om 5 31,om 6 32,om 7 33] (.seq (kq [om 34 7,o0 35 (.not (.t 34)),om 36 35,oh 37 36 false 6,og 38 36 false (.len 0 (.t 37)),kG 39 36 false .neq (.t 38) (xi 1),kR 40 36 39] (kd 40 (kq [o6 41 12 [],om 4 41] .ret) .skip)) (kq [om 43 5,om 44 6,o0 45 (.iad 32 (.t 44) (xi 0)),o2 46 32 45,o0 47 (.bld cQ [(0,32,(.t 46))]),o0 48 (.bsf 33 1 cQ [(0,33,(.t 47))]),o6 49 36 [.t 48],o0 50 (.bsf 5 1 gy [(0,5,(.t 49))]),o6 51 32 [.t 43,.t 50],om 42 51,oe 52 42 0,oe 53 42 1,oe 54 42 2,om 8 52,om 9 53,om 10 54] (kq [om 55 10,o0 56 (.not (.t 55)),om 57 56,oh 58 57 false 0,oh 59 57 false 8,og 60 57 false (.call (.fn 37) [.t 58,.t 59]),kR 61 57 60,om 62 61,og 63 62 true (.call (.fn 12) []),kP 64 62 63,om 4 64] .ret)))))),[.tmp 4]⟩
theorem vp:aN Tryz.prog [100029,300047,100048,100050] 8=some iI.erase:=by kernel_rfl
end Go.Proofs.Q
namespace Go.Proofs.Q
open Go Go.Bb Go.RowKit Go.Proofs.Lg
open Go.Ab (D RD)
set_option maxHeartbeats 4000000 in
set_option maxRecDepth 20000 in
theorem TL(f:aG Tryz.prog 12 [] (dB true))(s:aD)(h:iY s)(a:List af):aG Tryz.prog 8 [.sl 37 (s.map b5),.sl 33 (a.map aj)] (dB true):=by
 have o:=uQ h;by_cases r:ia ar s=true
 ·obtain⟨G,M⟩:=fc.fine h r;rw[r]at o;by_cases N:s.length≤6
  ·have z:decide ((s.length:Int)>6)=false:=by simp;omega
   by_cases L:a.length≤20
   ·have j:decide ((a.length:Int)>20)=false:=by simp;omega
    have B:=Ep (over:=a) a8;have y:=FQ a;have i:=G.grown B;unfold pB at i;by_cases p:(bP ar s (dm a)).2.2=0
    ·rw[kZ.2 p,if_pos p]at i;obtain⟨D,g,w⟩:=G.add B a8 p;have m:=Ep (over:=[⟨(bP ar s (dm a)).2.1,0⟩]) (by simp);have b:=FQ [⟨(bP ar s (dm a)).2.1,0⟩];have l:=D.grown m;unfold pB at l;by_cases x:(bP ar (bP ar s (dm a)).1 (dm [⟨(bP ar s (dm a)).2.1,0⟩])).2.2=0
     ·rw[kZ.2 x,if_pos x]at l;obtain⟨E,_,_⟩:=D.add m a8 x;have H:=G.same E;rw[Ov G.v E.v (TR G.v p x)]at H;obtain⟨u,C⟩: ∃t,t=(bP ar (bP ar s (dm a)).1 (dm [⟨(bP ar s (dm a)).2.1,0⟩])).1:=⟨_,rfl⟩
      rw[←C]at l H;clear C E x g w p B m;obtain⟨t,A⟩: ∃t,t=(bP ar s (dm a)).1:=⟨_,rfl⟩
      obtain⟨d,q⟩: ∃t,t=(bP ar s (dm a)).2.1:=⟨_,rfl⟩
      rw[←A,←q]at i l;rw[←q]at b;rw[bV,e8]at b;obtain⟨J,c⟩: ∃t,t=dm a:=⟨_,rfl⟩
      rw[←c]at y i;obtain⟨K,k⟩: ∃t,t=dm [⟨d,0⟩]:=⟨_,rfl⟩
      rw[←k]at b l;have I:(⟨d,af.zero.n⟩:af)=⟨d,0⟩:=rfl;clear A q c k D G r h;refine aM (F:=iI) vp (by simp[iI]) ?_;simp only[iI]
      repeat' first|refine ae (fun _=> ?_) fun _=> ?_|refine aL ?_|refine aq.data (o) rfl ?_|refine aq.data (y) rfl ?_|refine aq.data (i) rfl ?_|refine aq.data (b) rfl ?_|refine aq.data (l) rfl ?_|refine aq.data (H) rfl ?_|refine aq.data (f) rfl ?_|simp only[nr,dn,dj,z,j,I,eo,da,br,ba,az,aQ,aY,b6,Int.reduceBNe,wj,wy,qg,aH,reduceCtorEq,reduceIte,Nat.reduceAdd,Nat.reduceMul,Nat.reduceEqDiff,Nat.reduceLT,Nat.reduceLeDiff,Nat.reduceSub,aA,aF,aE,aw]
      all_goals first|rfl|trace_state
     ·rw[if_neg (fun e=>x (kZ.1.1 e))]at l;clear x g w p B m;obtain⟨t,A⟩: ∃t,t=(bP ar s (dm a)).1:=⟨_,rfl⟩
      obtain⟨d,q⟩: ∃t,t=(bP ar s (dm a)).2.1:=⟨_,rfl⟩
      rw[←A,←q]at i;rw[←A,←q]at l;rw[←q]at b;rw[bV,e8]at b;obtain⟨J,c⟩: ∃t,t=dm a:=⟨_,rfl⟩
      rw[←c]at y i;obtain⟨K,k⟩: ∃t,t=dm [⟨d,0⟩]:=⟨_,rfl⟩
      rw[←k]at b l;have I:(⟨d,af.zero.n⟩:af)=⟨d,0⟩:=rfl;clear A q c k D G r h;refine aM (F:=iI) vp (by simp[iI]) ?_;simp only[iI]
      repeat' first|refine ae (fun _=> ?_) fun _=> ?_|refine aL ?_|refine aq.data (o) rfl ?_|refine aq.data (y) rfl ?_|refine aq.data (i) rfl ?_|refine aq.data (b) rfl ?_|refine aq.data (l) rfl ?_|refine aq.data (f) rfl ?_|simp only[nr,dn,dj,z,j,I,eo,da,br,ba,az,aQ,aY,b6,Int.reduceBNe,wj,wy,qg,aH,reduceCtorEq,reduceIte,Nat.reduceAdd,Nat.reduceMul,Nat.reduceEqDiff,Nat.reduceLT,Nat.reduceLeDiff,Nat.reduceSub,aA,aF,aE,aw]
      all_goals first|rfl|trace_state
    ·rw[if_neg (fun e=>p (kZ.1.1 e))]at i;obtain⟨J,c⟩: ∃t,t=dm a:=⟨_,rfl⟩
     rw[←c]at y i;clear G r h p c B;refine aM (F:=iI) vp (by simp[iI]) ?_;simp only[iI]
     repeat' first|refine ae (fun _=> ?_) fun _=> ?_|refine aL ?_|refine aq.data (o) rfl ?_|refine aq.data (y) rfl ?_|refine aq.data (i) rfl ?_|refine aq.data (f) rfl ?_|simp only[dn,dj,z,j,br,aQ,aY,b6,Int.reduceBNe,wj,wy,qg,aH,reduceCtorEq,reduceIte,Nat.reduceAdd,Nat.reduceMul,Nat.reduceEqDiff,Nat.reduceLT,Nat.reduceLeDiff,Nat.reduceSub,aA,aF,aE,aw]
     all_goals first|rfl|trace_state
   ·have j:decide ((a.length:Int)>20)=true:=by simp;omega
    clear G;refine aM (F:=iI) vp (by simp[iI]) ?_;simp only[iI]
    repeat' first|refine ae (fun _=> ?_) fun _=> ?_|refine aL ?_|refine aq.data (o) rfl ?_|refine aq.data (f) rfl ?_|simp only[z,j,aQ,wj,wy,qg,aH,reduceCtorEq,reduceIte,Nat.reduceAdd,Nat.reduceMul,Nat.reduceEqDiff,Nat.reduceLT,Nat.reduceLeDiff,Nat.reduceSub,aA,aF,aE,aw]
    all_goals first|rfl|trace_state
  ·have z:decide ((s.length:Int)>6)=true:=by simp;omega
   clear G;refine aM (F:=iI) vp (by simp[iI]) ?_;simp only[iI]
   repeat' first|refine ae (fun _=> ?_) fun _=> ?_|refine aL ?_|refine aq.data (o) rfl ?_|refine aq.data (f) rfl ?_|simp only[z,aQ,wj,wy,qg,aH,reduceCtorEq,reduceIte,Nat.reduceAdd,Nat.reduceMul,Nat.reduceEqDiff,Nat.reduceLT,Nat.reduceLeDiff,Nat.reduceSub,aA,aF,aE,aw]
   all_goals first|rfl|trace_state
 ·have r:ia ar s=false:=by simpa using r
  rw[r]at o;refine aM (F:=iI) vp (by simp[iI]) ?_;simp only[iI]
  repeat' first|refine ae (fun _=> ?_) fun _=> ?_|refine aL ?_|refine aq.data (o) rfl ?_|refine aq.data (f) rfl ?_|simp only[aQ,wj,wy,qg,aH,reduceCtorEq,reduceIte,Nat.reduceAdd,Nat.reduceMul,Nat.reduceEqDiff,Nat.reduceLT,Nat.reduceLeDiff,Nat.reduceSub,aA,aF,aE,aw]
  all_goals first|rfl|trace_state
end Go.Proofs.Q
namespace Go.Proofs.Q
open Go Go.RowKit Go.Bb Go.Proofs.Lg
open Go.Ab (RD D)
theorem Ld{W:World}(l:GW W.heap.size W){v0 j:Value}{s:aD}(h:iY s){b:List af}(f:RD (Go.Bb.cellsIn W) W v0 (.sl 37 (s.map b5)))(g:RD (Go.Bb.cellsIn W) W j (.sl 33 (b.map aj))):
  Calls Tryz.prog 8 #[v0,j] W fun e k=>e= .returned (.bool true)∧Below W.heap.size W k:=by
 refine((TL uD s h b).calls (Go.Bb.cellsIn W) W [v0,j] rfl (fun i v d a c=> ?_) l).mono fun e w' n=> ?_
 ·match i with
  |0=>simp at a c;subst a;subst c;exact f
  |1=>simp at a c;subst a;subst c;exact g
  |i+2=>simp at a
 ·obtain⟨v,m,o,hb⟩:=n;have:v= .bool true:=by cases o;rfl
  subst this;exact⟨m,hb⟩
end Go.Proofs.Q
namespace Go.Proofs.YtellfinifjmloaaGreatDoor
open Go.ChangeShapes Go.WideShapes Go.ChangeAt Go.RowKit Go.Proofs.Lg Go.Bb
open Go.Proofs.Q (mz nu b5 oD FJ aj Ld)
theorem own:ownKnob Tryz.prog.godebug=none:=by kernel_rfl
theorem laidOut:laidOutB Tryz.prog=true:=by kernel_rfl
theorem nV{l:List (String×DataW Unit)}{w:World}(d:l=Rows.livingRestoredRow.laid)(h:laidMetH Tryz.prog l w):GW w.heap.size w:=by
 have b:=h.filter fun x=>x.1== "internal/strconv.uint64pow10";rw[d]at b;have c:laidMet Tryz.prog [("internal/strconv.uint64pow10",Lib.tabData .u64 kE)] w:=by
  rw[MakeChecks.laidMetH_plain _ _ _ (by kernel_rfl)]at b;exact b
 have a:Lib.TabIs Tryz.prog w "internal/strconv.uint64pow10" .u64 kE:=Lib.tabIs_of_head (g:=1) (by kernel_rfl) (by kernel_rfl) Tryz.underlying312 Tryz.underlying176 (by kernel_rfl) (by kernel_rfl) c;intro p hp;simp only[r9,iB]at hp;subst hp;unfold Lib.TabIs World.var? at a
 rw[show Tryz.prog.globalNamed "internal/strconv.uint64pow10"=some 1 by kernel_rfl,dP]at a;dsimp only;split at a
 ·rename_i cs t fz hg;obtain rfl:=aJ a;exact⟨(fB.1 hg).1,t,fz,hg⟩
 ·cases a
set_option maxRecDepth 100000 in
theorem Ur(os:Os)(started:os.Started)(H:Type)(enc:TypeId×Value→H):
  ReturnsInHanded {} Tryz.checked os 8 .any (fun w args=>(Rows.livingRestoredSpec.pre enc Tryz.prog Tryz.f8 Rows.livingRestoredRow.domain false w args∧laidMetH Tryz.prog Rows.livingRestoredRow.laid w)∧sizedMet enc Tryz.prog Tryz.f8 (OpenSpec.ofChange Rows.livingRestoredSpec) false w args)
   (Rows.livingRestoredSpec.post enc Tryz.prog Tryz.f8 false true false false):=by
 refine returnsInHanded_of_change_and (C:=Tryz.checked) (X:=fun w _=>laidMetH Tryz.prog Rows.livingRestoredRow.laid w) (fun _ _ _ L h=>h.of_heap L) own started (by kernel_rfl) Tryz.func8
  (ChangeSpec.witness_shaped (enc:=enc) (C:=Tryz.checked) (os:=os) (X:=fun w _=>laidMetH Tryz.prog Rows.livingRestoredRow.laid w) false (World.laidAll Tryz.prog os Rows.livingRestoredRow.laid) #[.slice none 0 0,.slice none 0 0] 8 (World.laidAll_os _ _ _)
   (World.shaped_of_ZipB (by kernel_rfl) (by kernel_rfl)) (by kernel_rfl) (by kernel_rfl) (by kernel_rfl)
   (by rw[MakeChecks.laidMetH_plain _ _ _ (by kernel_rfl)];exact laidMet_laidAll _ (by kernel_rfl) (by kernel_rfl))) ?_
 intro W base args ds Z before b y hc _ I _;have a: ∀(j:Nat) t v,Tryz.f8.params[j]?=some t→args[j]?=some v→Value.okWide Tryz.prog W .any base t v:=b;have i:=y;obtain⟨p,q,d,J,rfl,_,_⟩:=y;have u:DataW.TrodAll enc Tryz.prog W 0 (fun _=>true) true Tryz.f8.params.toList args.toList ds p:=d;rw[Tryz.params8]at u a
 obtain⟨v0,S,V,D,O,q0,f,rfl,rfl,o,Q⟩:=trodAll_cons u;obtain⟨B,T,Y,E,P,q1,g,rfl,rfl,r,R⟩:=trodAll_cons Q;obtain⟨rfl,rfl,rfl⟩:=trodAll_nil R;obtain rfl:args= #[v0,B]:=by cases args;simp_all
 obtain⟨rfl,rfl⟩:=trodVars_none J;have z:=o;have A:=r;have k: ∀x∈O,x.block<W.heap.size:=by obtain⟨m,hm⟩:=z;exact DataW.trod_lt m _ _ _ hm
 have l: ∀x∈P,x.block<W.heap.size:=by obtain⟨m,hm⟩:=A;exact DataW.trod_lt m _ _ _ hm
 obtain⟨x0,F,o0⟩:=tM (n:=12) (sh:=mz) Tryz.underlying23 (by kernel_rfl) (a 0 23 v0 rfl rfl) o;obtain⟨s,rfl,M⟩:=nu o0;obtain⟨x1,G,o1⟩:=tM (n:=12) (sh:= .sl 33 oD) Tryz.underlying30 (by kernel_rfl) (a 1 30 B rfl rfl) r;obtain⟨N,rfl,hi⟩:=FJ o1;clear d b;refine(Ld (nV rfl I) M F G).mono fun e U ⟨K,c⟩=> ?_;subst K
 exact⟨_,rfl,_,_,_,[],_,[],i,trodAll_mk1 (shut_bool Tryz.underlying4 _),(trodAll_cons_mk (Below.trod laidOut (by kernel_rfl) (of_decide_eq_true (by kernel_rfl)) z c k) (trodAll_cons_mk (Below.trod laidOut (by kernel_rfl) (of_decide_eq_true (by kernel_rfl)) A c l) trodAll_mk0)),rfl,c.frame _,fun h=>by cases h⟩
end Go.Proofs.YtellfinifjmloaaGreatDoor
