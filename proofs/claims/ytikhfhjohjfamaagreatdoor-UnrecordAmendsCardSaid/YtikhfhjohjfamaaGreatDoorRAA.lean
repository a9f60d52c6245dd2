/- Lemmas. -/
import Derived.Test.YtikhfhjohjfamaaGreatDoorTie
import Derived.Test.YtikhfhjohjfamaaGreatDoorCards
import Derived.ShutString
import Derived.LaidMore
import Derived.LaidSub
import Derived.Lay
import Derived.SevenTiedAt
import Derived.Stop.Joined
import Derived.Laws.IdiomArrays
import Derived.ChangeOld
import Derived.Below
import Derived.Lib.LaidTab
import Derived.Test.YtikhfhjohjfamaaGreatDoorPV
import Derived.Test.YtikhfhjohjfamaaGreatDoorPBU
set_option linter.unusedVariables false
set_option linter.unusedSimpArgs false
set_option maxRecDepth 100000
namespace Go.Proofs.Q
open Go Go.RowKit Go.Bb Go.Proofs.Lg
open Go.Ab (RD D)
theorem unrecordAmends_walk{W:World}(o:GW W.heap.size W){g j:Value}{s:ar}(h:u0 s){n:Int}(u:0<=n/\n<256){m:Meta}(k:m.author.size<=maxLen/\m.message.size<=maxLen)(c:RD (Go.Bb.cellsIn W) W g (.sl 37 (s.map aX)))(f:RD (Go.Bb.cellsIn W) W j (.agg (eS m))):
  Calls Tryz.prog 9 #[g,.int .u8 n,j] W λe l=>e= .returned (.bool true)/\Below W.heap.size W l:=by
 refine((ah a0O s h n.toNat a8 m k.1 k.2).calls (Go.Bb.cellsIn W) W [g,.int .u8 n,j] rfl (λi v d a b=> ?_) o).mono λe w r=> ?_
 .match i with
  |0=>simp at a b;subst a;subst b;exact c
  |1=>simp at a b;subst a;subst b;rw[show max n 0=n by omega];exact .sc _
  |2=>simp at a b;subst a;subst b;exact f
  |i+3=>simp at a
 .obtain⟨v,q,t,p⟩:=r;have:v= .bool true:=by cases t;rfl
  subst this;exact⟨q,p⟩
end Go.Proofs.Q
namespace Go.Proofs.YtikhfhjohjfamaaGreatDoor
open Go.ChangeShapes Go.WideShapes Go.ChangeAt Go.RowKit Go.Proofs.Lg Go.Bb
open Go.Proofs.Q (YL a07 aX Zu av aK eS unrecordAmends_walk)
theorem own:ownKnob Tryz.prog.godebug=none:=by kernel_rfl
theorem laidOut:laidOutB Tryz.prog=true:=by kernel_rfl
theorem ao{l:List (String×DataW Unit)}{w:World}(i:l=Rows.unrecordAmendsRow.laid)(h:laidMetH Tryz.prog l w):GW w.heap.size w:=by
 have b:=h.filter λx=>x.1== "internal/strconv.uint64pow10";rw[i]at b;have f:laidMet Tryz.prog [("internal/strconv.uint64pow10",Lib.tabData .u64 F5)] w:=by
  rw[MakeChecks.laidMetH_plain _ _ _ (by kernel_rfl)]at b;exact b
 have a:Lib.TabIs Tryz.prog w "internal/strconv.uint64pow10" .u64 F5:=Lib.tabIs_of_head (g:=1) (by kernel_rfl) (by kernel_rfl) Tryz.underlying375 Tryz.underlying245 (by kernel_rfl) (by kernel_rfl) f;intro p d;simp only[Jq,jH]at d;subst d;unfold Lib.TabIs World.var? at a
 rw[show Tryz.prog.globalNamed "internal/strconv.uint64pow10"=some 1 by kernel_rfl,eE]at a;dsimp only;split at a
 .rename_i j t e c;obtain rfl:=aJ a;exact⟨(gy.1 c).1,t,e,c⟩
 .cases a
set_option maxRecDepth 100000 in
theorem unrecordAmends_lifted(os:Os)(started:os.Started)(H:Type)(enc:TypeId×Value->H):
  ReturnsInHanded {} Tryz.checked os 9 .any (λw a=>(Rows.unrecordAmendsSpec.pre enc Tryz.prog Tryz.f9 Rows.unrecordAmendsRow.domain false w a/\laidMetH Tryz.prog Rows.unrecordAmendsRow.laid w)/\sizedMet enc Tryz.prog Tryz.f9 (OpenSpec.ofChange Rows.unrecordAmendsSpec) false w a)
   (Rows.unrecordAmendsSpec.post enc Tryz.prog Tryz.f9 false true false false):=by
 refine returnsInHanded_of_change_and (C:=Tryz.checked) (X:=λw _=>laidMetH Tryz.prog Rows.unrecordAmendsRow.laid w) (λ_ _ _ Y h=>h.of_heap Y) own started (by kernel_rfl) Tryz.func9
  (ChangeSpec.witness_shaped (enc:=enc) (C:=Tryz.checked) (os:=os) (X:=λw _=>laidMetH Tryz.prog Rows.unrecordAmendsRow.laid w) false (World.laidAll Tryz.prog os Rows.unrecordAmendsRow.laid) #[.slice none 0 0,.int .u8 0,.agg #[.string ⟨#[]⟩,.string ⟨#[]⟩,.int .i64 0]] 8 (World.laidAll_os _ _ _)
   (World.shaped_of_ZipB (by kernel_rfl) (by kernel_rfl)) (by kernel_rfl) (by kernel_rfl) (by kernel_rfl)
   (by rw[MakeChecks.laidMetH_plain _ _ _ (by kernel_rfl)];exact laidMet_laidAll _ (by kernel_rfl) (by kernel_rfl))) ?_
 intro W g a N gs before c F hc _ T _;have b: ∀(j:Nat) t v,Tryz.f9.params[j]?=some t->a[j]?=some v->Value.okWide Tryz.prog W .any g t v:=c;have r:=F;obtain⟨p,q,i,U,rfl,_,_⟩:=F;have E:DataW.TrodAll enc Tryz.prog W 0 (λ_=>true) true Tryz.f9.params.toList a.toList N p:=i;rw[Tryz.params9]at E b
 obtain⟨K,a0,d0,O,p0,q0,k,rfl,rfl,A,r0⟩:=trodAll_cons E;obtain⟨L,a1,d1,P,p1,q1,l,rfl,rfl,B,r1⟩:=trodAll_cons r0;obtain⟨M,a2,d2,Q,p2,q2,o,rfl,rfl,D,r2⟩:=trodAll_cons r1;obtain⟨rfl,rfl,rfl⟩:=trodAll_nil r2;obtain rfl:a= #[K,L,M]:=by cases a;simp_all
 obtain⟨rfl,rfl⟩:=trodVars_none U;have G:=A;have I:=B;have J:=D;have u: ∀x∈p0,x.block<W.heap.size:=by obtain⟨m,f⟩:=G;exact DataW.trod_lt m _ _ _ f
 have y: ∀x∈p1,x.block<W.heap.size:=by obtain⟨m,f⟩:=I;exact DataW.trod_lt m _ _ _ f
 have z: ∀x∈p2,x.block<W.heap.size:=by obtain⟨m,f⟩:=J;exact DataW.trod_lt m _ _ _ f
 obtain⟨x0,R,o0⟩:=a06 Tryz.underlying23 (show tF Tryz.prog 12 23=some [YL] by kernel_rfl) (b 0 23 K rfl rfl) A;obtain⟨s,rfl,Z⟩:=a07 o0;obtain⟨n,rfl,n1,n2,n3⟩:=open_int Tryz.underlying5 (b 1 5 L rfl rfl) B;obtain⟨x2,S,o2⟩:=a05 (.inl ⟨_,Tryz.underlying58⟩) (show tF Tryz.prog 12 58=some av by kernel_rfl) (b 2 58 M rfl rfl) D;obtain⟨m,rfl,f⟩:=aK o2
 clear i c;refine(unrecordAmends_walk (ao rfl T) Z (Zu n3) f R S).mono λe W' ⟨V,d⟩=> ?_;subst V
 exact⟨_,rfl,_,_,_,[],_,[],r,trodAll_mk1 (shut_bool Tryz.underlying4 _),(trodAll_cons_mk (Below.trod laidOut (by kernel_rfl) (of_decide_eq_true (by kernel_rfl)) G d u) (trodAll_cons_mk (Below.trod laidOut (by kernel_rfl) (of_decide_eq_true (by kernel_rfl)) I d y) (trodAll_cons_mk (Below.trod laidOut (by kernel_rfl) (of_decide_eq_true (by kernel_rfl)) J d z) trodAll_mk0))),rfl,d.frame _,λh=>by cases h⟩
end Go.Proofs.YtikhfhjohjfamaaGreatDoor
