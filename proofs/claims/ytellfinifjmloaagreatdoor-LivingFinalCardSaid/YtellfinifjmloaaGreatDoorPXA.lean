/- Lemmas. -/
import Derived.Test.YtellfinifjmloaaGreatDoorPX2
import Derived.Test.YtellfinifjmloaaGreatDoorTie
import Derived.Test.YtellfinifjmloaaGreatDoorCards
import Derived.ShutString
import Derived.LaidMore
import Derived.LaidSub
import Derived.Lay
import Derived.SevenTiedAt
import Derived.Stop.Joined
import Derived.Laws.IdiomArrays
import Derived.ChangeOld
import Derived.Below
import Derived.Lib.LaidTab
set_option linter.unusedVariables false
set_option linter.unusedSimpArgs false
namespace Go.Proofs.Q
open Go Go.Ab Go.Bb
def mh:CF:=⟨68, (kq [ox 3 1,kM 4 xF] (.seq (kq [om 12 0,o6 13 11 [.t 12],o0 14 (.not (.t 13)),om 15 14,oh 16 15 false 0,og 17 15 false (.len 0 (.t 16)),kG 18 15 false .gtr (.t 17) (xi 7),kR 19 15 18,om 20 19,og 21 20 false (.ld (some 5) (.t 3)),og 22 20 false (.call (.fn 31) [.t 21]),kR 23 20 22] (kd 23 (kq [o6 24 12 [],om 4 24] .ret) .skip)) (.seq (kq [o1 25 4 3,o3 26 25,o9 27 0 26,o7 28 0] (.block 0 (.loop (.trim [28,26,3,0,27] (kq [o4 29 .lss 28 27] (.seq (kd 29 .skip (.exit 0)) (.seq (.block 1 (kq [oi 30 139 26 28,o2 31 139 30,kB 6 oH,o8 139 6 31] (kq [o1 32 0 6,o3 33 32,o5 34 .eql 33 7] (kd 34 (kq [o6 35 12 [],om 4 35] .ret) .skip)))) (fo [o5 36 .add 28 1,om 28 36])))))))) (kq [om 38 0,o2 39 5 3,o0 40 (.bsf 5 1 gy [(0,5,(.t 39))]),o6 41 32 [.t 38,.t 40],om 37 41,oe 42 37 0,oe 43 37 1,oe 44 37 2,om 7 42,om 8 43,om 9 44] (.seq (kq [om 45 9,o0 46 (.not (.t 45))] (kd 46 (kq [o6 47 12 [],om 4 47] .ret) .skip)) (.seq (kq [om 48 0,o6 49 33 [.t 48],o9 50 0 49,o7 51 0] (.block 2 (.loop (.trim [51,0,7,49,50] (kq [o4 52 .lss 51 50] (.seq (kd 52 .skip (.exit 2)) (.seq (.block 3 (kq [oi 53 172 49 51,o2 54 172 53,kB 11 dZ,o8 172 11 54] (kq [om 55 7,o1 56 0 11,o2 57 33 56,o6 58 16 [.t 55,.t 57],om 59 58,oh 60 59 true 0,kF 61 59 true 0 11,og 62 59 true (.ld (some 33) (.t 61)),og 63 59 true (.call (.fn 16) [.t 60,.t 62]),og 64 59 true (.not (.t 63)),kP 65 59 64] (kd 65 (kq [kM 4 xF] .ret) .skip)))) (fo [o5 66 .add 51 1,om 51 66]))))))))
 (kq [o6 67 12 [],om 4 67] .ret))))))),[.tmp 4]⟩
theorem DB:aN Tryz.prog [100003,100040] 7=some mh.erase:=by kernel_rfl
end Go.Proofs.Q
namespace Go.Proofs.Q
open Go Go.Bb Go.RowKit Go.Proofs.Lg
open Go.Ab (D RD)
set_option maxHeartbeats 4000000 in
set_option maxRecDepth 20000 in
theorem TH(f:aG Tryz.prog 12 [] (dB true))(s:aD)(h:iY s)(p:aX)(hp:jn p):aG Tryz.prog 7 [.sl 37 (s.map b5),.agg (bc p)] (dB true):=by
 have l:=uQ h;have y:=DR p (ef hp.changes pt);by_cases B:ia ar s=true
 ·obtain⟨G,T⟩:=fc.fine h B;rw[B]at l;by_cases U:s.length≤7
  ·have z:decide ((s.length:Int)>7)=false:=by simp;omega
   cases hg:jC p
   ·rw[hg]at y;have I:cz p∧du p:=⟨ur hp hg,wu hg⟩
    have m:=G.grown I;unfold pB at m;have cA:=G.atoms;have H:=G.alen;have cs:=G.alive;obtain⟨t,E⟩: ∃t,t=(bP ar s p).1:=⟨_,rfl⟩
    obtain⟨d,N⟩: ∃t,t=(bP ar s p).2.1:=⟨_,rfl⟩
    have key:(∀c∈p.changes,c.kind≠7)→((k9 s p).2.2=0∧k9 s p=(t,d,0)∧(∀i,aG Tryz.prog 16 [.sl 37 (t.map b5),.agg (aj i)] (dB (eE t i)))∧ ∀x∈ff s,(eE t x.id&& !eE s x.id)=false)∨(k9 s p).2.2≠0:=fun o=>by
     by_cases n:(bP ar s p).2.2=0
     ·obtain⟨R,g,O⟩:=G.add I a8 n;refine .inl ⟨kZ.1.2 n,?_,?_,?_⟩
      ·rw[kZ.2 n,E,N,←n]
      ·rw[E];exact R.alive
      ·rw[E];exact SE g o
     ·exact .inr fun e=>n (kZ.1.1 e)
    have S:p.changes.length≤20:=(A7 hg).2.1;clear hg B h hp I E N;refine aM (F:=mh) DB (by simp[mh]) ?_;simp only[mh]
    repeat' first|refine ae (fun _=> ?_) fun _=> ?_|refine ay (ga @dn (ga @dj (ga @z (ga @br @wj)))) (ga @l @y) ?_|exact ax (ga @dn (ga @dj (ga @z (ga @br @wj)))) (ga @l @y)|fail
    clear l y;refine aZ.overI p.changes (fun k (b:List aa)=>[(28,iN k)]) (fun _ b=>b) (fun r _=>r.all fun c=>decide (c.kind≠7)) (p.changes.all fun c=>decide (c.kind≠7)) (fun _ _=>True) [] a8 aB aB rfl rfl trivial (fun k b c j hk a D q _=> ?_) (fun b a q _=> ?_)
    ·rw[List.all_cons]at q;clear key;by_cases o:c.kind=7
     ·have C:(c.kind==7)=true:=by simpa using o
      repeat' first|refine ae (fun _=> ?_) fun _=> ?_|refine ay (ga @j (ga @a (ga @C (ga @fb (ga @de @wj))))) @f ?_|exact ax (ga @j (ga @a (ga @C (ga @fb (ga @de @wj))))) @f|fail
      all_goals first|rfl|trace_state
     ·have C:(c.kind==7)=false:=by simpa using o
      rw[decide_eq_true o,s5]at q
      repeat' first|refine ae (fun _=> ?_) fun _=> ?_|refine ay (ga @j (ga @a (ga @D (ga @C (ga @fb (ga @de @wj)))))) ab ?_|exact ax (ga @j (ga @a (ga @D (ga @C (ga @fb (ga @de @wj)))))) ab|fail
      exact q
    ·rw[List.all_nil]at q;have o: ∀c∈p.changes,c.kind≠7:=fun c hc=>of_decide_eq_true (jX.1 q c hc);rcases key o with⟨n,w,L,kF⟩|n
     ·rw[w]at m;rw[if_pos rfl]at m;obtain⟨A,M⟩: ∃A,A=ff s:=⟨_,rfl⟩
      rw[←M]at cA H kF;clear M key q o G n w
      repeat' first|refine ae (fun _=> ?_) fun _=> ?_|refine ay (ga @dn (ga @dj (ga @a (ga @br @wj)))) (ga @m @cA) ?_|exact ax (ga @dn (ga @dj (ga @a (ga @br @wj)))) (ga @m @cA)|fail
      clear m cA;refine aZ.over A (fun k (b:List aa)=>[(51,iN k)]) (fun _ b=>b) (fun _ _=>()) () b a8 aB aB rfl rfl (fun k b x j hk a D _=> ?_) (fun b a _=> ?_)
      ·have J:=cs x.id;have K:=L x.id;have kF:=kF x (bX j);obtain⟨u,P⟩: ∃u,u=eE s x.id:=⟨_,rfl⟩
       obtain⟨v,Q⟩: ∃u,u=eE t x.id:=⟨_,rfl⟩
       rw[←P]at J kF;rw[←Q]at K kF;clear P Q cs L;cases u<;>cases v<;>first|(exfalso;revert kF;decide)|skip
       all_goals
        repeat' first|refine ae (fun _=> ?_) fun _=> ?_|refine ay (ga @j (ga @a (ga @D (ga @bz (ga @bb (ga @az @wj)))))) (ga @J @K) ?_|exact ax (ga @j (ga @a (ga @D (ga @bz (ga @bb (ga @az @wj)))))) (ga @J @K)|fail
        exact⟨_,rfl⟩
      ·repeat' first|refine ae (fun _=> ?_) fun _=> ?_|refine ay (ga @a @wj) @f ?_|exact ax (ga @a @wj) @f|fail
       all_goals first|rfl|trace_state
     ·rw[if_neg n]at m;clear key q o G
      repeat' first|refine ae (fun _=> ?_) fun _=> ?_|refine ay (ga @dn (ga @dj (ga @a (ga @br @wj)))) (ga @m @f) ?_|exact ax (ga @dn (ga @dj (ga @a (ga @br @wj)))) (ga @m @f)|fail
      all_goals first|rfl|trace_state
   ·rw[hg]at y;clear G;refine aM (F:=mh) DB (by simp[mh]) ?_;simp only[mh]
    repeat' first|refine ae (fun _=> ?_) fun _=> ?_|refine ay (ga @dn (ga @dj (ga @z (ga @br @wj)))) (ga @l (ga @y @f)) ?_|exact ax (ga @dn (ga @dj (ga @z (ga @br @wj)))) (ga @l (ga @y @f))|fail
    all_goals first|rfl|trace_state
  ·have z:decide ((s.length:Int)>7)=true:=by simp;omega
   clear G;refine aM (F:=mh) DB (by simp[mh]) ?_;simp only[mh]
   repeat' first|refine ae (fun _=> ?_) fun _=> ?_|refine ay (ga @dn (ga @dj (ga @z (ga @br @wj)))) (ga @l @f) ?_|exact ax (ga @dn (ga @dj (ga @z (ga @br @wj)))) (ga @l @f)|fail
   all_goals first|rfl|trace_state
 ·have B:ia ar s=false:=by simpa using B
  rw[B]at l;refine aM (F:=mh) DB (by simp[mh]) ?_;simp only[mh]
  repeat' first|refine ae (fun _=> ?_) fun _=> ?_|refine ay (ga @dn (ga @dj (ga @br @wj))) (ga @l @f) ?_|exact ax (ga @dn (ga @dj (ga @br @wj))) (ga @l @f)|fail
  all_goals first|rfl|trace_state
end Go.Proofs.Q
namespace Go.Proofs.Q
open Go Go.RowKit Go.Bb Go.Proofs.Lg
open Go.Ab (RD D)
theorem La{W:World}(k:GW W.heap.size W){v0 g:Value}{s:aD}(h:iY s){p:aX}(hp:jn p)(c:RD (Go.Bb.cellsIn W) W v0 (.sl 37 (s.map b5)))(f:RD (Go.Bb.cellsIn W) W g (.agg (bc p))):
  Calls Tryz.prog 7 #[v0,g] W fun e j=>e= .returned (.bool true)∧Below W.heap.size W j:=by
 refine((TH uD s h p hp).calls (Go.Bb.cellsIn W) W [v0,g] rfl (fun i v d a b=> ?_) k).mono fun e w' m=> ?_
 ·match i with
  |0=>simp at a b;subst a;subst b;exact c
  |1=>simp at a b;subst a;subst b;exact f
  |i+2=>simp at a
 ·obtain⟨v,l,n,hb⟩:=m;have:v= .bool true:=by cases n;rfl
  subst this;exact⟨l,hb⟩
end Go.Proofs.Q
namespace Go.Proofs.YtellfinifjmloaaGreatDoor
open Go.ChangeShapes Go.WideShapes Go.ChangeAt Go.RowKit Go.Proofs.Lg Go.Bb
open Go.Proofs.Q (mz nu b5 rP tJ bc La)
theorem own:ownKnob Tryz.prog.godebug=none:=by kernel_rfl
theorem laidOut:laidOutB Tryz.prog=true:=by kernel_rfl
theorem nV{l:List (String×DataW Unit)}{w:World}(d:l=Rows.livingFinalRow.laid)(h:laidMetH Tryz.prog l w):GW w.heap.size w:=by
 have b:=h.filter fun x=>x.1== "internal/strconv.uint64pow10";rw[d]at b;have c:laidMet Tryz.prog [("internal/strconv.uint64pow10",Lib.tabData .u64 kE)] w:=by
  rw[MakeChecks.laidMetH_plain _ _ _ (by kernel_rfl)]at b;exact b
 have a:Lib.TabIs Tryz.prog w "internal/strconv.uint64pow10" .u64 kE:=Lib.tabIs_of_head (g:=1) (by kernel_rfl) (by kernel_rfl) Tryz.underlying312 Tryz.underlying176 (by kernel_rfl) (by kernel_rfl) c;intro p hp;simp only[r9,iB]at hp;subst hp;unfold Lib.TabIs World.var? at a
 rw[show Tryz.prog.globalNamed "internal/strconv.uint64pow10"=some 1 by kernel_rfl,dP]at a;dsimp only;split at a
 ·rename_i cs t fz hg;obtain rfl:=aJ a;exact⟨(fB.1 hg).1,t,fz,hg⟩
 ·cases a
set_option maxRecDepth 100000 in
theorem Uf(os:Os)(started:os.Started)(H:Type)(enc:TypeId×Value→H):
  ReturnsInHanded {} Tryz.checked os 7 .any (fun w args=>(Rows.livingFinalSpec.pre enc Tryz.prog Tryz.f7 Rows.livingFinalRow.domain false w args∧laidMetH Tryz.prog Rows.livingFinalRow.laid w)∧sizedMet enc Tryz.prog Tryz.f7 (OpenSpec.ofChange Rows.livingFinalSpec) false w args)
   (Rows.livingFinalSpec.post enc Tryz.prog Tryz.f7 false true false false):=by
 refine returnsInHanded_of_change_and (C:=Tryz.checked) (X:=fun w _=>laidMetH Tryz.prog Rows.livingFinalRow.laid w) (fun _ _ _ L h=>h.of_heap L) own started (by kernel_rfl) Tryz.func7
  (ChangeSpec.witness_shaped (enc:=enc) (C:=Tryz.checked) (os:=os) (X:=fun w _=>laidMetH Tryz.prog Rows.livingFinalRow.laid w) false (World.laidAll Tryz.prog os Rows.livingFinalRow.laid) #[.slice none 0 0,.agg #[.string ⟨#[]⟩,.string ⟨#[]⟩,.int .i64 0,.slice none 0 0,.slice none 0 0]] 8 (World.laidAll_os _ _ _)
   (World.shaped_of_ZipB (by kernel_rfl) (by kernel_rfl)) (by kernel_rfl) (by kernel_rfl) (by kernel_rfl)
   (by rw[MakeChecks.laidMetH_plain _ _ _ (by kernel_rfl)];exact laidMet_laidAll _ (by kernel_rfl) (by kernel_rfl))) ?_
 intro W base args ds Y before b y hc _ I _;have a: ∀(j:Nat) t v,Tryz.f7.params[j]?=some t→args[j]?=some v→Value.okWide Tryz.prog W .any base t v:=b;have i:=y;obtain⟨p,q,d,J,rfl,_,_⟩:=y;have u:DataW.TrodAll enc Tryz.prog W 0 (fun _=>true) true Tryz.f7.params.toList args.toList ds p:=d;rw[Tryz.params7]at u a
 obtain⟨v0,R,U,D,N,Z,f,rfl,rfl,o,P⟩:=trodAll_cons u;obtain⟨B,S,V,E,O,q1,g,rfl,rfl,r,Q⟩:=trodAll_cons P;obtain⟨rfl,rfl,rfl⟩:=trodAll_nil Q;obtain rfl:args= #[v0,B]:=by cases args;simp_all
 obtain⟨rfl,rfl⟩:=trodVars_none J;have z:=o;have A:=r;have k: ∀x∈N,x.block<W.heap.size:=by obtain⟨m,hm⟩:=z;exact DataW.trod_lt m _ _ _ hm
 have l: ∀x∈O,x.block<W.heap.size:=by obtain⟨m,hm⟩:=A;exact DataW.trod_lt m _ _ _ hm
 obtain⟨x0,F,o0⟩:=tM (n:=12) (sh:=mz) Tryz.underlying23 (by kernel_rfl) (a 0 23 v0 rfl rfl) o;obtain⟨s,rfl,M⟩:=nu o0;obtain⟨x1,G,o1⟩:=DW (n:=12) (shs:=rP) (.inl ⟨_,Tryz.underlying44⟩) (by kernel_rfl) (a 1 44 B rfl rfl) r;obtain⟨p,rfl,hp⟩:=tJ o1;clear d b;refine(La (nV rfl I) M hp F G).mono fun e T ⟨K,c⟩=> ?_;subst K
 exact⟨_,rfl,_,_,_,[],_,[],i,trodAll_mk1 (shut_bool Tryz.underlying4 _),(trodAll_cons_mk (Below.trod laidOut (by kernel_rfl) (of_decide_eq_true (by kernel_rfl)) z c k) (trodAll_cons_mk (Below.trod laidOut (by kernel_rfl) (of_decide_eq_true (by kernel_rfl)) A c l) trodAll_mk0)),rfl,c.frame _,fun h=>by cases h⟩
end Go.Proofs.YtellfinifjmloaaGreatDoor
