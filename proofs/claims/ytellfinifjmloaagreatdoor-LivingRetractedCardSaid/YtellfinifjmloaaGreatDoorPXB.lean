/- Lemmas. -/
import Derived.Test.YtellfinifjmloaaGreatDoorPX2
import Derived.Test.YtellfinifjmloaaGreatDoorTie
import Derived.Test.YtellfinifjmloaaGreatDoorCards
import Derived.ShutString
import Derived.LaidMore
import Derived.LaidSub
import Derived.Lay
import Derived.SevenTiedAt
import Derived.Stop.Joined
import Derived.Laws.IdiomArrays
import Derived.ChangeOld
import Derived.Below
import Derived.Lib.LaidTab
set_option linter.unusedVariables false
set_option linter.unusedSimpArgs false
namespace Go.Proofs.Q
open Go Go.Ab Go.Bb
def jG:CF:=⟨95, (kq [ox 3 1,kM 4 xF] (.seq (kq [om 15 0,o6 16 11 [.t 15],o0 17 (.not (.t 16)),om 18 17,oh 19 18 false 0,og 20 18 false (.len 0 (.t 19)),kG 21 18 false .gtr (.t 20) (xi 6),kR 22 18 21,om 23 22,og 24 23 false (.ld (some 5) (.t 3)),og 25 23 false (.call (.fn 31) [.t 24]),kR 26 23 25] (kd 26 (kq [o6 27 12 [],om 4 27] .ret) .skip)) (kq [om 29 0,o2 30 5 3,o0 31 (.bsf 5 1 gy [(0,5,(.t 30))]),o6 32 32 [.t 29,.t 31],om 28 32,oe 33 28 0,oe 34 28 1,oe 35 28 2,om 5 33,om 6 34,om 7 35] (.seq (kq [om 36 7,o0 37 (.not (.t 36)),om 38 37,oh 39 38 false 6,og 40 38 false (.len 0 (.t 39)),kG 41 38 false .neq (.t 40) (xi 1),kR 42 38 41] (kd 42 (kq [o6 43 12 [],om 4 43] .ret) .skip)) (kq [o0 8 (.nlr 27 33)] (.seq (kq [o2 44 5 3,o6 45 38 [.t 44],o7 46 0] (.block 0 (.loop (.trim [46,6,8,0,5,45] (kq [o4 47 .lss 46 45] (.seq (kd 47 .skip (.exit 0)) (.seq (.block 1 (kq [om 48 46,om 9 48] (fo [om 49 8,om 50 6,o0 51 (.iad 32 (.t 50) (xi 0)),o2 52 32 51,om 53 9,o0 54 (.bld cQ [(0,32,(.t 52)),(32,1,(.t 53))]),o0 55 (.bsf 33 1 cQ [(0,33,(.t 54))]),o0 56 (.app false 27 33 40 (.t 49) (.t 55)),om 8 56]))) (fo [o5 57 .add 46 1,om 46 57])))))))) (.seq (kq [om 58 8,o9 59 0 58,o5 60 .eql 59 0,om 61 60,oh 62 61 false 8,og 63 61 false (.len 0 (.t 62)),kG 64 61 false .gtr (.t 63) (xi 400),kR 65 61 64] (kd 65 (kq [o6 66 12 [],om 4 66] .ret) .skip))
 (kq [om 68 5,om 69 8,o6 70 36 [.t 69],o0 71 (.bsf 5 1 gy [(0,5,(.t 70))]),o6 72 32 [.t 68,.t 71],om 67 72,oe 73 67 0,oe 74 67 1,oe 75 67 2,om 10 73,om 11 74,om 12 75] (.seq (kq [om 76 12,o0 77 (.not (.t 76))] (kd 77 (kq [o6 78 12 [],om 4 78] .ret) .skip)) (.seq (kq [om 79 8,o9 80 0 79,o7 81 0] (.block 2 (.loop (.trim [81,10,79,0,80] (kq [o4 82 .lss 81 80] (.seq (kd 82 .skip (.exit 2)) (.seq (.block 3 (kq [oi 83 33 79 81,o2 84 33 83,kB 14 cQ,o8 33 14 84] (kq [om 85 10,o2 86 33 14,o6 87 16 [.t 85,.t 86]] (kd 87 (kq [kM 4 xF] .ret) .skip)))) (fo [o5 88 .add 81 1,om 81 88])))))))) (kq [om 89 0,om 90 10,o6 91 37 [.t 89,.t 90],om 92 91,og 93 92 true (.call (.fn 12) []),kP 94 92 93,om 4 94] .ret))))))))))),[.tmp 4]⟩
theorem xG:aN Tryz.prog [100003,100031,200008,300054,100055,100071] 9=some jG.erase:=by kernel_rfl
end Go.Proofs.Q
namespace Go.Proofs.Q
open Go Go.Bb Go.RowKit Go.Proofs.Lg
open Go.Ab (D RD)
def iH(d:Dg)(n:Nat):List af:=(List.range n).map fun j=>⟨d,(j:Nat)⟩
theorem xg(d:Dg)(n:Nat):(iH d n).length=n:=by unfold iH;rw[aQ,ew]
theorem Tc(d:Dg)(n:Nat):iH d (n+1)=iH d n++[⟨d,n⟩]:=by unfold iH;rw[List.range_succ,fp];rfl
set_option maxHeartbeats 4000000 in
set_option maxRecDepth 20000 in
theorem TM(c:aG Tryz.prog 12 [] (dB true))(s:aD)(h:iY s)(p:aX)(hp:jn p):aG Tryz.prog 9 [.sl 37 (s.map b5),.agg (bc p)] (dB true):=by
 have j:=uQ h;have m:=DR p (ef hp.changes pt);by_cases J:ia ar s=true
 ·obtain⟨G,a0⟩:=fc.fine h J;rw[J]at j;by_cases hl:s.length≤6
  ·have y:decide ((s.length:Int)>6)=false:=by simp;omega
   cases hg:jC p
   ·rw[hg]at m;have H:cz p∧du p:=⟨ur hp hg,wu hg⟩
    have r:=G.grown H;have S:=Z5 p H.1 H.2;have W:=zW H.2;unfold pB at r;by_cases K:(bP ar s p).2.2=0
    ·rw[kZ.2 K,if_pos K]at r;obtain⟨R,g,C⟩:=G.add H a8 K;obtain⟨t,X⟩: ∃t,t=(bP ar s p).1:=⟨_,rfl⟩
     obtain⟨d,hd⟩: ∃t,t=(bP ar s p).2.1:=⟨_,rfl⟩
     rw[←X,←hd]at r g;rw[←X]at R C;have key: ∀n,n=(eG p).length→n≤400→(bP ar t (dm (iH d n))).2.2=0→fc (bP ar t (dm (iH d n))).1∧(∀o∈iH d n,eE (bP ar t (dm (iH d n))).1 o=false)∧vN s (bP ar t (dm (iH d n))).1=true:=fun n hn L A=>by
      obtain⟨B,_,_⟩:=R.add (Ep (by rw[xg];exact L)) a8 A;subst hn;obtain⟨Q,k2⟩:=TN g A;exact⟨B,fun o ho=>by rw[ka B.v];exact Q o ho,Ov G.v B.v k2⟩
     have i: ∀n,n≤400→aG Tryz.prog 32 [.sl 37 (t.map b5),.sl 5 [bc (dm (iH d n))]] (pB (k9 t (dm (iH d n)))):=fun n L=>R.grown (Ep (by rw[xg];exact L));obtain⟨N,V⟩: ∃N,N=(eG p).length:=⟨_,rfl⟩
     rw[←V]at S W;have key:=key N V;have i:=i N;clear X hd K C g R H hg J h hp V;refine aM (F:=jG) xG (by simp[jG]) ?_;simp only[jG]
     repeat' first|simp only[aY,b6]|refine ae (fun _=> ?_) fun _=> ?_|refine ay (ga @dn (ga @dj (ga @y (ga @br @wj)))) (ga @j (ga @m (ga @r @S))) ?_|exact ax (ga @dn (ga @dj (ga @y (ga @br @wj)))) (ga @j (ga @m (ga @r @S)))|fail
     clear j m r S;refine aZ.overI (List.range N) (fun k (b:List af)=>[(46,iN k),(8,.tsl 0 33 (b.map aj))]) (fun k b=>[.row 27 33 b.length]) (fun _ _=>()) () (fun k b=>b=iH d k) [] (by rw[ew];omega) aB aB rfl rfl rfl (fun k b x z hk a P hR U=> ?_) (fun b a hR U=> ?_)
     ·subst U;rw[ew]at a hk;have hr:bw (k+1) 40=true:=room_le a8 a8;have l:=xg d k
      repeat' first|simp only[aY,b6]|refine ae (fun _=> ?_) fun _=> ?_|refine ay (ga @nr (ga @a (ga @P (ga @hr (ga @l (ga @eo (ga @da (ga @az (ga @ba @wj))))))))) ab ?_|exact ax (ga @nr (ga @a (ga @P (ga @hr (ga @l (ga @eo (ga @da (ga @az (ga @ba @wj))))))))) ab|fail
      refine⟨iH d (k+1),?_,?_,rfl⟩
      ·rw[Tc];simp
      ·rw[xg]
     ·subst U;rw[ew]at a;rw[ew];have l:=xg d N;by_cases hz:N=0
      ·have w:((N:Int)==0)=true:=by simp[hz]
       repeat' first|refine ae (fun _=> ?_) fun _=> ?_|refine ay (ga @a (ga @l (ga @w @wj))) @c ?_|exact ax (ga @a (ga @l (ga @w @wj))) @c|fail
       all_goals first|rfl|trace_state
      ·have w:((N:Int)==0)=false:=by rw[beq_eq_false_iff_ne];omega
       by_cases L:N≤400
       ·have E:decide ((N:Int)>400)=false:=by simp;omega
        have i:=i L;have D:=FQ (iH d N);unfold pB at i;by_cases A:(bP ar t (dm (iH d N))).2.2=0
        ·obtain⟨B,Y,Z⟩:=key L A;rw[kZ.2 A,if_pos A]at i;obtain⟨u,O⟩: ∃q,q=(bP ar t (dm (iH d N))).1:=⟨_,rfl⟩
         rw[←O]at i Y Z B;have cl:=B.alive;have T:=G.same B;rw[Z]at T;obtain⟨I,M⟩: ∃I,I=iH d N:=⟨_,rfl⟩
         have f:I.length=N:=by rw[M];exact l
         rw[←M]at i D Y⊢;clear M O key A Z B G
         repeat' first|refine ae (fun _=> ?_) fun _=> ?_|refine ay (ga @dn (ga @dj (ga @a (ga @f (ga @w (ga @E (ga @br @wj))))))) (ga @D @i) ?_|exact ax (ga @dn (ga @dj (ga @a (ga @f (ga @w (ga @E (ga @br @wj))))))) (ga @D @i)|fail
         clear D i;refine aZ.over I (fun k (b:List aa)=>[(81,iN k)]) (fun _ b=>b) (fun _ _=>()) () _ a8 aB aB rfl rfl (fun k b x z hk a P _=> ?_) (fun b a _=> ?_)
         ·have Q:=cl x;rw[Y x (bX z)]at Q;rw[f]at a
          repeat' first|refine ae (fun _=> ?_) fun _=> ?_|refine ay (ga @z (ga @a (ga @P (ga @f (ga @da (ga @az @wj)))))) @Q ?_|exact ax (ga @z (ga @a (ga @P (ga @f (ga @da (ga @az @wj)))))) @Q|fail
          exact⟨_,rfl⟩
         ·rw[f]at a
          repeat' first|refine ae (fun _=> ?_) fun _=> ?_|refine ay (ga @f (ga @a @wj)) (ga @T @c) ?_|exact ax (ga @f (ga @a @wj)) (ga @T @c)|fail
          all_goals first|rfl|trace_state
        ·rw[if_neg (fun e=>A (kZ.1.1 e))]at i;clear key G;obtain⟨I,M⟩: ∃I,I=iH d N:=⟨_,rfl⟩
         rw[←M]at i D l⊢;clear M A
         repeat' first|refine ae (fun _=> ?_) fun _=> ?_|refine ay (ga @dn (ga @dj (ga @a (ga @l (ga @w (ga @E (ga @br @wj))))))) (ga @D (ga @i @c)) ?_|exact ax (ga @dn (ga @dj (ga @a (ga @l (ga @w (ga @E (ga @br @wj))))))) (ga @D (ga @i @c))|fail
         all_goals first|rfl|trace_state
       ·have E:decide ((N:Int)>400)=true:=by simp;omega
        repeat' first|refine ae (fun _=> ?_) fun _=> ?_|refine ay (ga @a (ga @l (ga @w (ga @E @wj)))) @c ?_|exact ax (ga @a (ga @l (ga @w (ga @E @wj)))) @c|fail
        all_goals first|rfl|trace_state
    ·rw[if_neg (fun e=>K (kZ.1.1 e))]at r;clear G H J h hp K;refine aM (F:=jG) xG (by simp[jG]) ?_;simp only[jG]
     repeat' first|simp only[aY,b6]|refine ae (fun _=> ?_) fun _=> ?_|refine ay (ga @dn (ga @dj (ga @y (ga @br @wj)))) (ga @j (ga @m (ga @r @c))) ?_|exact ax (ga @dn (ga @dj (ga @y (ga @br @wj)))) (ga @j (ga @m (ga @r @c)))|fail
     all_goals first|rfl|trace_state
   ·rw[hg]at m;clear G;refine aM (F:=jG) xG (by simp[jG]) ?_;simp only[jG]
    repeat' first|refine ae (fun _=> ?_) fun _=> ?_|refine ay (ga @dn (ga @dj (ga @y (ga @br @wj)))) (ga @j (ga @m @c)) ?_|exact ax (ga @dn (ga @dj (ga @y (ga @br @wj)))) (ga @j (ga @m @c))|fail
    all_goals first|rfl|trace_state
  ·have y:decide ((s.length:Int)>6)=true:=by simp;omega
   clear G;refine aM (F:=jG) xG (by simp[jG]) ?_;simp only[jG]
   repeat' first|refine ae (fun _=> ?_) fun _=> ?_|refine ay (ga @dn (ga @dj (ga @y (ga @br @wj)))) (ga @j @c) ?_|exact ax (ga @dn (ga @dj (ga @y (ga @br @wj)))) (ga @j @c)|fail
   all_goals first|rfl|trace_state
 ·have J:ia ar s=false:=by simpa using J
  rw[J]at j;refine aM (F:=jG) xG (by simp[jG]) ?_;simp only[jG]
  repeat' first|refine ae (fun _=> ?_) fun _=> ?_|refine ay (ga @dn (ga @dj (ga @br @wj))) (ga @j @c) ?_|exact ax (ga @dn (ga @dj (ga @br @wj))) (ga @j @c)|fail
  all_goals first|rfl|trace_state
end Go.Proofs.Q
namespace Go.Proofs.Q
open Go Go.RowKit Go.Bb Go.Proofs.Lg
open Go.Ab (RD D)
theorem Le{W:World}(k:GW W.heap.size W){v0 g:Value}{s:aD}(h:iY s){p:aX}(hp:jn p)(c:RD (Go.Bb.cellsIn W) W v0 (.sl 37 (s.map b5)))(f:RD (Go.Bb.cellsIn W) W g (.agg (bc p))):
  Calls Tryz.prog 9 #[v0,g] W fun e j=>e= .returned (.bool true)∧Below W.heap.size W j:=by
 refine((TM uD s h p hp).calls (Go.Bb.cellsIn W) W [v0,g] rfl (fun i v d a b=> ?_) k).mono fun e w' m=> ?_
 ·match i with
  |0=>simp at a b;subst a;subst b;exact c
  |1=>simp at a b;subst a;subst b;exact f
  |i+2=>simp at a
 ·obtain⟨v,l,n,hb⟩:=m;have:v= .bool true:=by cases n;rfl
  subst this;exact⟨l,hb⟩
end Go.Proofs.Q
namespace Go.Proofs.YtellfinifjmloaaGreatDoor
open Go.ChangeShapes Go.WideShapes Go.ChangeAt Go.RowKit Go.Proofs.Lg Go.Bb
open Go.Proofs.Q (mz nu b5 rP tJ bc Le)
theorem own:ownKnob Tryz.prog.godebug=none:=by kernel_rfl
theorem laidOut:laidOutB Tryz.prog=true:=by kernel_rfl
theorem nV{l:List (String×DataW Unit)}{w:World}(d:l=Rows.livingRetractedRow.laid)(h:laidMetH Tryz.prog l w):GW w.heap.size w:=by
 have b:=h.filter fun x=>x.1== "internal/strconv.uint64pow10";rw[d]at b;have c:laidMet Tryz.prog [("internal/strconv.uint64pow10",Lib.tabData .u64 kE)] w:=by
  rw[MakeChecks.laidMetH_plain _ _ _ (by kernel_rfl)]at b;exact b
 have a:Lib.TabIs Tryz.prog w "internal/strconv.uint64pow10" .u64 kE:=Lib.tabIs_of_head (g:=1) (by kernel_rfl) (by kernel_rfl) Tryz.underlying312 Tryz.underlying176 (by kernel_rfl) (by kernel_rfl) c;intro p hp;simp only[r9,iB]at hp;subst hp;unfold Lib.TabIs World.var? at a
 rw[show Tryz.prog.globalNamed "internal/strconv.uint64pow10"=some 1 by kernel_rfl,dP]at a;dsimp only;split at a
 ·rename_i cs t fz hg;obtain rfl:=aJ a;exact⟨(fB.1 hg).1,t,fz,hg⟩
 ·cases a
set_option maxRecDepth 100000 in
theorem Uv(os:Os)(started:os.Started)(H:Type)(enc:TypeId×Value→H):
  ReturnsInHanded {} Tryz.checked os 9 .any (fun w args=>(Rows.livingRetractedSpec.pre enc Tryz.prog Tryz.f9 Rows.livingRetractedRow.domain false w args∧laidMetH Tryz.prog Rows.livingRetractedRow.laid w)∧sizedMet enc Tryz.prog Tryz.f9 (OpenSpec.ofChange Rows.livingRetractedSpec) false w args)
   (Rows.livingRetractedSpec.post enc Tryz.prog Tryz.f9 false true false false):=by
 refine returnsInHanded_of_change_and (C:=Tryz.checked) (X:=fun w _=>laidMetH Tryz.prog Rows.livingRetractedRow.laid w) (fun _ _ _ L h=>h.of_heap L) own started (by kernel_rfl) Tryz.func9
  (ChangeSpec.witness_shaped (enc:=enc) (C:=Tryz.checked) (os:=os) (X:=fun w _=>laidMetH Tryz.prog Rows.livingRetractedRow.laid w) false (World.laidAll Tryz.prog os Rows.livingRetractedRow.laid) #[.slice none 0 0,.agg #[.string ⟨#[]⟩,.string ⟨#[]⟩,.int .i64 0,.slice none 0 0,.slice none 0 0]] 8 (World.laidAll_os _ _ _)
   (World.shaped_of_ZipB (by kernel_rfl) (by kernel_rfl)) (by kernel_rfl) (by kernel_rfl) (by kernel_rfl)
   (by rw[MakeChecks.laidMetH_plain _ _ _ (by kernel_rfl)];exact laidMet_laidAll _ (by kernel_rfl) (by kernel_rfl))) ?_
 intro W base args ds Y before b y hc _ I _;have a: ∀(j:Nat) t v,Tryz.f9.params[j]?=some t→args[j]?=some v→Value.okWide Tryz.prog W .any base t v:=b;have i:=y;obtain⟨p,q,d,J,rfl,_,_⟩:=y;have u:DataW.TrodAll enc Tryz.prog W 0 (fun _=>true) true Tryz.f9.params.toList args.toList ds p:=d;rw[Tryz.params9]at u a
 obtain⟨v0,R,U,D,N,Z,f,rfl,rfl,o,P⟩:=trodAll_cons u;obtain⟨B,S,V,E,O,q1,g,rfl,rfl,r,Q⟩:=trodAll_cons P;obtain⟨rfl,rfl,rfl⟩:=trodAll_nil Q;obtain rfl:args= #[v0,B]:=by cases args;simp_all
 obtain⟨rfl,rfl⟩:=trodVars_none J;have z:=o;have A:=r;have k: ∀x∈N,x.block<W.heap.size:=by obtain⟨m,hm⟩:=z;exact DataW.trod_lt m _ _ _ hm
 have l: ∀x∈O,x.block<W.heap.size:=by obtain⟨m,hm⟩:=A;exact DataW.trod_lt m _ _ _ hm
 obtain⟨x0,F,o0⟩:=tM (n:=12) (sh:=mz) Tryz.underlying23 (by kernel_rfl) (a 0 23 v0 rfl rfl) o;obtain⟨s,rfl,M⟩:=nu o0;obtain⟨x1,G,o1⟩:=DW (n:=12) (shs:=rP) (.inl ⟨_,Tryz.underlying44⟩) (by kernel_rfl) (a 1 44 B rfl rfl) r;obtain⟨p,rfl,hp⟩:=tJ o1;clear d b;refine(Le (nV rfl I) M hp F G).mono fun e T ⟨K,c⟩=> ?_;subst K
 exact⟨_,rfl,_,_,_,[],_,[],i,trodAll_mk1 (shut_bool Tryz.underlying4 _),(trodAll_cons_mk (Below.trod laidOut (by kernel_rfl) (of_decide_eq_true (by kernel_rfl)) z c k) (trodAll_cons_mk (Below.trod laidOut (by kernel_rfl) (of_decide_eq_true (by kernel_rfl)) A c l) trodAll_mk0)),rfl,c.frame _,fun h=>by cases h⟩
end Go.Proofs.YtellfinifjmloaaGreatDoor
