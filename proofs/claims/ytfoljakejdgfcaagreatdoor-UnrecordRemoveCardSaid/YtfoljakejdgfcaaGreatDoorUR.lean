/- UnrecordRemove holds: for every set, identity and identities that can be read as data the Go function returns true, and the arguments read as they did. Conditions: those of the card: the laid variables are tied to the program's text. -/
import Derived.Test.YtfoljakejdgfcaaGreatDoorTie
import Derived.Test.YtfoljakejdgfcaaGreatDoorCards
import Derived.ShutString
import Derived.LaidMore
import Derived.LaidSub
import Derived.Lay
import Derived.SevenTiedAt
import Derived.Stop.Joined
import Derived.Laws.IdiomArrays
import Derived.ChangeOld
import Derived.Below
import Derived.Lib.LaidTab
import Derived.Test.YtfoljakejdgfcaaGreatDoorPCA
set_option linter.unusedVariables false
set_option linter.unusedSimpArgs false
namespace Go.Proofs.Q
open Go Go.RowKit Go.Bb Go.Proofs.Lg
open Go.Ab (RD D)
theorem XI(s:aP)(h:sW s)(d:Dg)(ids:List Dg):aE Tryz.prog 3 [.sl 37 (s.map b8),.agg (aq d),.sl 32 (ids.map aq)] (dB true):=
 PX Nb s h (fun x a=>by
  have:=(h.pat x a).changes;have hm:maxLen≤9223372036854775807:=by unfold maxLen;omega
  omega) d ids
theorem KG{W:World}(k:GW W.heap.size W){v0 c v2:Value}{s:aP}(h:sW s){d:Dg}{ids:List Dg}(h0:RD (Go.Bb.cellsIn W) W v0 (.sl 37 (s.map b8)))(g:RD (Go.Bb.cellsIn W) W c (.agg (aq d)))(j:RD (Go.Bb.cellsIn W) W v2 (.sl 32 (ids.map aq))):
  Calls Tryz.prog 3 #[v0,c,v2] W fun e f=>e= .returned (.bool true)∧Below W.heap.size W f:=by
 refine((XI s h d ids).calls (Go.Bb.cellsIn W) W [v0,c,v2] rfl (fun i v d a b=> ?_) k).mono fun e w' m=> ?_
 ·match i with
  |0=>simp at a b;subst a;subst b;exact h0
  |1=>simp at a b;subst a;subst b;exact g
  |2=>simp at a b;subst a;subst b;exact j
  |i+3=>simp at a
 ·obtain⟨v,l,n,hb⟩:=m;have:v= .bool true:=by cases n;rfl
  subst this;exact⟨l,hb⟩
end Go.Proofs.Q
namespace Go.Proofs.YtfoljakejdgfcaaGreatDoor
open Go.ChangeShapes Go.WideShapes Go.ChangeAt Go.RowKit Go.Proofs.Lg Go.Bb
open Go.Proofs.Q (Fb qD L9 vb Da KG b8 aq)
theorem own:ownKnob Tryz.prog.godebug=none:=by kernel_rfl
theorem laidOut:laidOutB Tryz.prog=true:=by kernel_rfl
theorem Pp{l:List (String×DataW Unit)}{w:World}(e:l=Rows.unrecordRemoveRow.laid)(h:laidMetH Tryz.prog l w):GW w.heap.size w:=by
 have b:=h.filter fun x=>x.1== "internal/strconv.uint64pow10";rw[e]at b;have d:laidMet Tryz.prog [("internal/strconv.uint64pow10",Lib.tabData .u64 vN)] w:=by
  rw[MakeChecks.laidMetH_plain _ _ _ (by kernel_rfl)]at b;exact b
 have a:Lib.TabIs Tryz.prog w "internal/strconv.uint64pow10" .u64 vN:=Lib.tabIs_of_head (g:=1) (by kernel_rfl) (by kernel_rfl) Tryz.underlying305 Tryz.underlying207 (by kernel_rfl) (by kernel_rfl) d;intro p c;simp only[Dp,pw]at c;subst c;unfold Lib.TabIs World.var? at a
 rw[show Tryz.prog.globalNamed "internal/strconv.uint64pow10"=some 1 by kernel_rfl,dF]at a;dsimp only;split at a
 ·rename_i cs t fz hg;obtain rfl:=az a;exact⟨(fK.1 hg).1,t,fz,hg⟩
 ·cases a
set_option maxRecDepth 100000 in
theorem unrecordRemove_lifted(os:Os)(started:os.Started)(H:Type)(enc:TypeId×Value→H):
  ReturnsInHanded {} Tryz.checked os 3 .any (fun w args=>(Rows.unrecordRemoveSpec.pre enc Tryz.prog Tryz.f3 Rows.unrecordRemoveRow.domain false w args∧laidMetH Tryz.prog Rows.unrecordRemoveRow.laid w)∧sizedMet enc Tryz.prog Tryz.f3 (OpenSpec.ofChange Rows.unrecordRemoveSpec) false w args)
   (Rows.unrecordRemoveSpec.post enc Tryz.prog Tryz.f3 false true false false):=by
 refine returnsInHanded_of_change_and (C:=Tryz.checked) (X:=fun w _=>laidMetH Tryz.prog Rows.unrecordRemoveRow.laid w) (fun _ _ _ R h=>h.of_heap R) own started (by kernel_rfl) Tryz.func3
  (ChangeSpec.witness_shaped (enc:=enc) (C:=Tryz.checked) (os:=os) (X:=fun w _=>laidMetH Tryz.prog Rows.unrecordRemoveRow.laid w) false (World.laidAll Tryz.prog os Rows.unrecordRemoveRow.laid) #[.slice none 0 0,.agg (Array.replicate 32 (.int .u8 0)),.slice none 0 0] 8 (World.laidAll_os _ _ _)
   (World.shaped_of_ZipB (by kernel_rfl) (by kernel_rfl)) (by kernel_rfl) (by kernel_rfl) (by kernel_rfl)
   (by rw[MakeChecks.laidMetH_plain _ _ _ (by kernel_rfl)];exact laidMet_laidAll _ (by kernel_rfl) (by kernel_rfl))) ?_
 intro W base args ds gs before b B hc _ O _;have a: ∀(j:Nat) t v,Tryz.f3.params[j]?=some t→args[j]?=some v→Value.okWide Tryz.prog W .any base t v:=b;have l:=B;obtain⟨p,q,f,P,rfl,_,_⟩:=B;have A:DataW.TrodAll enc Tryz.prog W 0 (fun _=>true) true Tryz.f3.params.toList args.toList ds p:=f;rw[Tryz.params3]at A a
 obtain⟨v0,a0,d0,I,T,q0,g,rfl,rfl,h0,Y⟩:=trodAll_cons A;obtain⟨G,a1,d1,J,U,q1,i,rfl,rfl,y,Z⟩:=trodAll_cons Y;obtain⟨v2,a2,d2,K,V,q2,k,rfl,rfl,z,r2⟩:=trodAll_cons Z;obtain⟨rfl,rfl,rfl⟩:=trodAll_nil r2;obtain rfl:args= #[v0,G,v2]:=by cases args;simp_all
 obtain⟨rfl,rfl⟩:=trodVars_none P;have D:=h0;have E:=y;have F:=z;have o: ∀x∈T,x.block<W.heap.size:=by obtain⟨m,hm⟩:=D;exact DataW.trod_lt m _ _ _ hm
 have r: ∀x∈U,x.block<W.heap.size:=by obtain⟨m,hm⟩:=E;exact DataW.trod_lt m _ _ _ hm
 have u: ∀x∈V,x.block<W.heap.size:=by obtain⟨m,hm⟩:=F;exact DataW.trod_lt m _ _ _ hm
 obtain⟨x0,L,o0⟩:=KC (n:=12) (sh:=Fb) Tryz.underlying23 (by kernel_rfl) (a 0 23 v0 rfl rfl) h0;obtain⟨s,rfl,S⟩:=L9 o0;obtain⟨x1,M,o1⟩:=Xv (n:=12) (shs:=qD) (.inr ⟨_,_,Tryz.underlying25⟩) (by kernel_rfl) (a 1 25 G rfl rfl) y;obtain⟨d,rfl⟩:=vb o1;obtain⟨x2,N,o2⟩:=KC (n:=12) (sh:= .sl 32 qD) Tryz.underlying26 (by kernel_rfl) (a 2 26 v2 rfl rfl) z
 obtain⟨ids,rfl,_⟩:=Da o2;clear f b;refine(KG (Pp rfl O) S L M N).mono fun e W' ⟨Q,c⟩=> ?_;subst Q
 exact⟨_,rfl,_,_,_,[],_,[],l,trodAll_mk1 (shut_bool Tryz.underlying4 _),(trodAll_cons_mk (Below.trod laidOut (by kernel_rfl) (of_decide_eq_true (by kernel_rfl)) D c o) (trodAll_cons_mk (Below.trod laidOut (by kernel_rfl) (of_decide_eq_true (by kernel_rfl)) E c r) (trodAll_cons_mk (Below.trod laidOut (by kernel_rfl) (of_decide_eq_true (by kernel_rfl)) F c u) trodAll_mk0))),rfl,c.frame _,fun h=>by cases h⟩
end Go.Proofs.YtfoljakejdgfcaaGreatDoor
namespace Go.Proofs.YtfoljakejdgfcaaGreatDoor
open Go.ChangeShapes Go.WideShapes Go.ChangeAt Go.RowKit Go.Proofs.Lg
set_option maxHeartbeats 4000000 in
set_option maxRecDepth 100000 in
theorem unrecordRemove_facts:joinedFacts Tryz.pinned.checked.prog 3 Tryz.f3 Rows.unrecordRemoveSpec Rows.unrecordRemoveRow=true:=by
 unfold joinedFacts;simp only[eI]
 repeat' apply And.intro
 all_goals(as_aux_lemma=>kernel_rfl)
theorem unrecordRemove_row:Rows.unrecordRemoveRow.holds Tryz.pinned (OpenSpec.ofChange Rows.unrecordRemoveSpec):=
 OpenClaim.holds_of_wide 3 Tryz.f3 rfl rfl rfl rfl rfl rfl rfl ⟨rfl,rfl,rfl,rfl,rfl⟩ rfl rfl rfl rfl rfl (by kernel_rfl) Tryz.func3 unrecordRemove_facts
  (of_decide_eq_true (by kernel_rfl)) (by unfold Func.isWrapper;first|(rw[if_pos (by decide+kernel)];kernel_rfl)|(rw[if_neg (by decide+kernel)];exact⟨rfl,rfl⟩))
  (fun os started H enc _=>unrecordRemove_lifted os started H enc)
theorem unrecordRemove_holds:Rows.UnrecordRemoveCardSaid:=
 Claim7.holds_tied_plain_at .later [] [.data,.data,.data] true (true,"84f2d3b849e899dcee3b7b05f991f23db2b4fbd56d00367ce2c12940e2ceb0df") false unrecordRemove_row (fun _ h=>by cases h) (by kernel_rfl) (fun _ h=>by cases h) unrecordRemove_row_tie rfl ⟨rfl,rfl⟩ (by kernel_rfl) rfl
  (fun f fn d b=>by
   obtain rfl:f=3:=az ((show Tryz.prog.funcNamed "quilt/quiltlaw28.UnrecordRemove"=some 3 by kernel_rfl).symm.trans d)|>.symm
   obtain rfl:fn=Tryz.f3:=(az (Tryz.func3.symm.trans b)).symm;exact⟨by kernel_rfl,fun j t c=>by
    rw[Tryz.params3]at c;have hm:t∈[23,25,26]:=by simpa using Array.mem_of_getElem? c
    have a:([23,25,26].all fun u=> !Tryz.prog.wantsStandIn u)=true:=by kernel_rfl
    exact(show Tryz.prog.wantsStandIn t=false by simpa using iA.1 a t hm)⟩)
  (by kernel_rfl)
#print axioms unrecordRemove_holds
end Go.Proofs.YtfoljakejdgfcaaGreatDoor
