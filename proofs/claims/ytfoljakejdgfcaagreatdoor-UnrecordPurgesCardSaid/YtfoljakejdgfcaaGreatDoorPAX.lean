/- Part of a proof. -/
import Derived.Shelf.Strings.Builder1
import Derived.Shelf.Small.Bits
import Derived.Shelf.Small.Strs
import Derived.Shelf.Strconv.Itoa0
import Derived.Shelf.Strconv.Itoa1
import Derived.Shelf.LaysM
import Derived.Shelf.Strconv.Itoa2
import Derived.Shelf.Strconv.Itoa3
import Derived.Shelf.Strings.Search1
import Derived.Shelf.Slices.Turned
import Derived.Ground.Names2Prog
import Derived.Shelf.Slices.SearchI
import Derived.Test.YtfoljakejdgfcaaGreatDoorPAW
set_option linter.unusedVariables false
set_option linter.unusedSimpArgs false
namespace Go.Proofs
open Go.Shelf
def Tryz.lays125_ren:Go.Shelf.Ren:=⟨fun|125=>165|128=>225|129=>226|n=>n,fun|46=>162|3=>3|51=>158|53=>207|4=>4|5=>5|9=>9|n=>n,fun|n=>n⟩
theorem Tryz.lays125:Go.Proofs.Lays.n125 Tryz.prog Tryz.lays125_ren:={
 mixed:=by kernel_rfl
 f125:=Tryz.func165.trans (congrArg some (by kernel_rfl))
 f128:=Tryz.func225.trans (congrArg some (by kernel_rfl))
 f129:=Tryz.func226.trans (congrArg some (by kernel_rfl))
 t3:=Tryz.underlying3
 a3:=Tryz.isAgg3
 z3:=Tryz.sizeOf3
 v3:=Tryz.zeroValue3
 t4:=Tryz.underlying4
 a4:=Tryz.isAgg4
 z4:=Tryz.sizeOf4
 v4:=Tryz.zeroValue4
 t5:=Tryz.underlying5
 a5:=Tryz.isAgg5
 z5:=Tryz.sizeOf5
 v5:=Tryz.zeroValue5
 t9:=Tryz.underlying9
 a9:=Tryz.isAgg9
 z9:=Tryz.sizeOf9
 v9:=Tryz.zeroValue9
 t46:=Tryz.underlying162
 a46:=Tryz.isAgg162
 z46:=Tryz.sizeOf162
 v46:=Tryz.zeroValue162
 t51:=Tryz.underlying158
 a51:=Tryz.isAgg158
 z51:=Tryz.sizeOf158
 v51:=Tryz.zeroValue158
 t53:=Tryz.underlying207
 a53:=Tryz.isAgg207
 z53:=Tryz.sizeOf207
 v53:=Tryz.zeroValue207}
theorem Tryz.bits_Len(x:Int)(w:World)(h0:0≤x)(a:x≤18446744073709551615):
 Calls Tryz.prog 165 #[.int .u64 x] w fun e w'=>e= .returned (.int .i64 (Lib.bitLen x.toNat))∧w'=w:=Any.bits_Len Tryz.lays125 x w h0 a
def Tryz.lays137_ren:Go.Shelf.Ren:=⟨fun|137=>235|217=>269|266=>287|n=>n,fun|9=>9|5=>5|3=>3|n=>n,fun|n=>n⟩
theorem Tryz.lays137:Go.Proofs.Lays.n137 Tryz.prog Tryz.lays137_ren:={
 mixed:=by kernel_rfl
 f137:=Tryz.func235.trans (congrArg some (by kernel_rfl))
 f217:=Tryz.func269.trans (congrArg some (by kernel_rfl))
 f266:=Tryz.func287.trans (congrArg some (by kernel_rfl))
 t3:=Tryz.underlying3
 a3:=Tryz.isAgg3
 z3:=Tryz.sizeOf3
 v3:=Tryz.zeroValue3
 t5:=Tryz.underlying5
 a5:=Tryz.isAgg5
 z5:=Tryz.sizeOf5
 v5:=Tryz.zeroValue5
 t9:=Tryz.underlying9
 a9:=Tryz.isAgg9
 z9:=Tryz.sizeOf9
 v9:=Tryz.zeroValue9}
open Go.RowKit in
theorem Tryz.strings_IndexByte(s:ByteArray)(c:Int)(w:World):
 Calls Tryz.prog 235 #[.string s,.int .u8 c] w fun e w'=>e= .returned (.int .i64 (Lib.indexByte s.data.toList c.toNat.toUInt8))∧w'=w:=Any.strings_IndexByte Tryz.lays137 s c w
def Tryz.laysM171_ren:Go.Shelf.Ren:=⟨fun|171=>270|243=>288|246=>293|283=>296|284=>297|285=>298|286=>299|129=>226|317=>300|318=>301|319=>302|320=>303|337=>304|338=>305|n=>n,fun|3=>3|9=>9|2=>2|4=>4|171=>300|0=>0|53=>207|37=>177|5=>5|173=>302|212=>305|51=>158|20=>20|213=>306|46=>162|232=>24|233=>307|n=>n,fun|17=>1|18=>2|19=>3|n=>n⟩
theorem Tryz.laysM171:Go.Proofs.LaysM.n171 Tryz.prog Tryz.laysM171_ren:={
 mixed:=by kernel_rfl
 f129:=Tryz.func226.trans (congrArg some (by kernel_rfl))
 f171:=Tryz.func270.trans (congrArg some (by kernel_rfl))
 f243:=Tryz.func288.trans (congrArg some (by kernel_rfl))
 f246:=Tryz.func293.trans (congrArg some (by kernel_rfl))
 f283:=Tryz.func296.trans (congrArg some (by kernel_rfl))
 f284:=Tryz.func297.trans (congrArg some (by kernel_rfl))
 f285:=Tryz.func298.trans (congrArg some (by kernel_rfl))
 f286:=Tryz.func299.trans (congrArg some (by kernel_rfl))
 f317:=Tryz.func300.trans (congrArg some (by kernel_rfl))
 f318:=Tryz.func301.trans (congrArg some (by kernel_rfl))
 f319:=Tryz.func302.trans (congrArg some (by kernel_rfl))
 f320:=Tryz.func303.trans (congrArg some (by kernel_rfl))
 f337:=Tryz.func304.trans (congrArg some (by kernel_rfl))
 f338:=Tryz.func305.trans (congrArg some (by kernel_rfl))
 t0:=Tryz.underlying0
 a0:=Tryz.isAgg0
 z0:=Tryz.sizeOf0
 v0:=Tryz.zeroValue0
 t2:=Tryz.underlying2
 a2:=Tryz.isAgg2
 z2:=Tryz.sizeOf2
 v2:=Tryz.zeroValue2
 t3:=Tryz.underlying3
 a3:=Tryz.isAgg3
 z3:=Tryz.sizeOf3
 v3:=Tryz.zeroValue3
 t4:=Tryz.underlying4
 a4:=Tryz.isAgg4
 z4:=Tryz.sizeOf4
 v4:=Tryz.zeroValue4
 t5:=Tryz.underlying5
 a5:=Tryz.isAgg5
 z5:=Tryz.sizeOf5
 v5:=Tryz.zeroValue5
 t9:=Tryz.underlying9
 a9:=Tryz.isAgg9
 z9:=Tryz.sizeOf9
 v9:=Tryz.zeroValue9
 t20:=Tryz.underlying20
 a20:=Tryz.isAgg20
 z20:=Tryz.sizeOf20
 v20:=Tryz.zeroValue20
 t37:=Tryz.underlying177
 a37:=Tryz.isAgg177
 z37:=Tryz.sizeOf177
 v37:=Tryz.zeroValue177
 t46:=Tryz.underlying162
 a46:=Tryz.isAgg162
 z46:=Tryz.sizeOf162
 v46:=Tryz.zeroValue162
 t51:=Tryz.underlying158
 a51:=Tryz.isAgg158
 z51:=Tryz.sizeOf158
 v51:=Tryz.zeroValue158
 t53:=Tryz.underlying207
 a53:=Tryz.isAgg207
 z53:=Tryz.sizeOf207
 v53:=Tryz.zeroValue207
 t171:=Tryz.underlying300
 a171:=Tryz.isAgg300
 z171:=Tryz.sizeOf300
 v171:=Tryz.zeroValue300
 t173:=Tryz.underlying302
 a173:=Tryz.isAgg302
 z173:=Tryz.sizeOf302
 v173:=Tryz.zeroValue302
 t212:=Tryz.underlying305
 a212:=Tryz.isAgg305
 z212:=Tryz.sizeOf305
 v212:=Tryz.zeroValue305
 t213:=Tryz.underlying306
 a213:=Tryz.isAgg306
 z213:=Tryz.sizeOf306
 t232:=Tryz.underlying24
 a232:=Tryz.isAgg24
 z232:=Tryz.sizeOf24
 v232:=Tryz.zeroValue24
 t233:=Tryz.underlying307
 a233:=Tryz.isAgg307
 z233:=Tryz.sizeOf307
 v233:=Tryz.zeroValue307
 g17:=by kernel_rfl
 g18:=by kernel_rfl
 g19:=by kernel_rfl
 i0:=by kernel_rfl
 i2:=by kernel_rfl
 i3:=by kernel_rfl
 i4:=by kernel_rfl
 i5:=by kernel_rfl
 i9:=by kernel_rfl
 i20:=by kernel_rfl
 i37:=by kernel_rfl
 i46:=by kernel_rfl
 i51:=by kernel_rfl
 i53:=by kernel_rfl
 i171:=by kernel_rfl
 i173:=by kernel_rfl
 i212:=by kernel_rfl
 i232:=by kernel_rfl
 i233:=by kernel_rfl
 m17:=by kernel_rfl
 m18:=by kernel_rfl
 m19:=by kernel_rfl}
open Go.RowKit Go.Sort Go.Lib in
theorem Tryz.strconv_Itoa(n:Int)(h0: -9223372036854775808≤n)(b:n≤9223372036854775807)(w:World)(a:Lib.TabIs Tryz.prog w "internal/strconv.uint64pow10" .u64 Lib.pow10Tab):
 Calls Tryz.prog 270 #[.int .i64 n] w fun e w'=>e= .returned (.string ⟨(Lib.itoa n).toArray⟩)∧ ∃k os,w'=grow (w.drewN k) os:=Any.strconv_Itoa Tryz.laysM171 n h0 b w a
end Go.Proofs
namespace Go.Proofs.Q
open Go Go.Bb Go.RowKit Go.Proofs.Lg
open Go.Ab (D RD)
theorem yl(l:List ar)(x:ar):(tM l x).length≤l.length+1:=by
 unfold tM;split
 ·omega
 ·have:=HZ x l 0;simp;omega
def jA(d:Dg)(x:aJ):aJ:=
 let x:={x with id:={x.id with p:=d}}
 let x:=if x.kind≠7 then{x with file:=whole x.file d}else x;let x:=if x.kind=2 then{x with parent:=whole x.parent d}else x
 if x.kind=6 then{x with fro:=whole x.fro d,til:=whole x.til d}else x
theorem Pa(d:Dg)(x:aJ):vo d x={jA d x with over:=iq (x.over.map (whole · d)) []}:=by
 unfold vo jA;dsimp only;by_cases c:x.kind=7
 ·simp[c]
 ·by_cases a:x.kind=2
  ·simp[a]
  ·by_cases b:x.kind=6
   ·simp[b]
   ·simp[c,a,b]
theorem Pb(d:Dg)(x:aJ):(jA d x).over=x.over:=by
 unfold jA;dsimp only;by_cases c:x.kind=7
 ·simp[c]
 ·by_cases a:x.kind=2
  ·simp[a]
  ·by_cases b:x.kind=6
   ·simp[b]
   ·simp[c,a,b]
theorem vR(x:aJ)(d:Dg):aV ((aO x).map .d) 0 32 ((aq d).map .d)=some ((aO {x with id:={x.id with p:=d}}).map .d):=by
 obtain⟨C,a⟩: ∃C:List D,C=[.sc (.int .i64 x.id.n)]++(aO x).drop 33:=⟨_,rfl⟩
 refine bZ (A:=[]) (B:=aq x.id.p) (C:=C) (B':=aq d) ?_ rfl (bc _) (bc _) ?_
 ·rw[a];simp only[aO,ab,bj,bn];rw[gx,gy (by rw[bc];decide),bc];rfl
 ·rw[a];simp only[aO,ab,bj,bn];rw[gx,gy (by rw[bc];decide),bc];rfl
theorem C5{b:List aJ}{A:aJ}{R rest:List aJ}{id sz e n m:Nat}{X:aa}{c:List aa}(d:R=b++A::rest)(hm:b.length+1=m): ∃a:List aJ×List aa,AV.tsl id sz (b.map aO++[aO A])=AV.tsl id sz (a.1.map aO)∧X::aa.row e n (b.length+1)::c=X::aa.row e n a.1.length::a.2∧R=a.1++rest∧a.1.length=m:=⟨(b++[A],c),by simp,by simp,by simp[d],by simp[hm]⟩
set_option maxHeartbeats 4000000 in
theorem UZ(p:b9)(I:cV p):aE Tryz.prog 33 [.agg (bk p)] (.tup [.sl 172 ((tj bE p).1.map aO),dI (tj bE p).2]):=by
 have s:=Ei p I;have A:=K8 p I.z;unfold tj;by_cases h:(dh bE p).2=0
 ·rw[h]at s;have B:(dT p).2=0:=by
   unfold dh at h;split at h
   ·rename_i D;exact absurd h D
   ·rename_i D;exact uT (p:=p) (by simpa[iD]using D)
  rw[if_neg (by simpa using h)];obtain⟨_,G,_,v,_⟩:=mY B;have q: ∀x∈(dT p).1,x.over.length≤400:=by rw[v];exact CY (by simp)
  have f:(dT p).1.length≤1604400:=by have:=CX (l:=p.changes) (own:=[]);rw[←v]at this;simp at this;omega
  obtain⟨d,K⟩: ∃d,d=(dh bE p).1:=⟨_,rfl⟩
  obtain⟨own,t⟩: ∃own,own=(dT p).1:=⟨_,rfl⟩
  rw[←K]at s⊢;rw[←t]at A q f⊢;clear h B v G I K t;refine aI (F:=rO) Ja (by simp[rO]) ?_;simp only[rO];refine aw (ga @eV @bc) (ga @s @A) ?_
  refine aX.overI own (fun k (b:List aJ×List aa)=>[(9,iN k),(8,.tsl 1 172 (b.1.map aO))]) (fun k b=>[.cells ((aq d).map .d),.row 71 172 b.1.length]++b.2) (fun r b=>b.1++r.map (vo d)) (own.map (vo d)) (fun k b=>b.1.length=k) ([],[]) a8 aA aA rfl rfl rfl (fun k b x hg Q o u i E=> ?_) (fun b o i E=> ?_)
  ·obtain⟨b,J⟩:=b;have P:=q x (bT hg);have C:br (b.length+1) 296=true:=by simp only[br,decide_eq_true_eq];dsimp only at E;omega
   rw[bO,Pa]at i;dsimp only at E;obtain w|hk2|hk6|⟨n7,n2,n6⟩:x.kind=7∨x.kind=2∨x.kind=6∨(x.kind≠7∧x.kind≠2∧x.kind≠6):=by omega
   ·have e:jA d x={x with id:={x.id with p:=d}}:=by simp[jA,w]
    refine aw (ga @o (ga @u (ga @hg (ga @w (ga @vR (ga @ef (ga @bJ @wj))))))) @qp ?_
    refine aX.overI x.over (fun m (l:List ar)=>[(12,iN m),(11,.d (.sl 33 (l.map ab)))]) (fun _ _=>_) (fun r l=>iq (r.map (whole · d)) l) (iq (x.over.map (whole · d)) []) (fun m l=>l.length≤m) [] a8 aA aA rfl rfl (by simp) (fun m l y j hm c n a g=> ?_) (fun l c a g=> ?_)
    ·have ci:=BD l (whole y d) a8;have H:=yl l (whole y d);rw[bO,iq]at a;refine aw (ga @c (ga @n (ga @j @wj))) (ga @qp @ci) ?_;exact⟨_,rfl,a,by omega⟩
    ·rw[eg,iq]at a;rw[a,e]at i;clear a e q f s A;refine aw (ga @c (ga @u (ga @C @wj))) trivial ?_;rw[w]at i;exact C5 i a8
   ·have e:jA d x={x with id:={x.id with p:=d},file:=whole x.file d,parent:=whole x.parent d}:=by simp[jA,hk2]
    refine aw (ga @o (ga @u (ga @hg (ga @hk2 (ga @vR (ga @ef (ga @bJ @wj))))))) @qp ?_
    refine aX.overI x.over (fun m (l:List ar)=>[(12,iN m),(11,.d (.sl 33 (l.map ab)))]) (fun _ _=>_) (fun r l=>iq (r.map (whole · d)) l) (iq (x.over.map (whole · d)) []) (fun m l=>l.length≤m) [] a8 aA aA rfl rfl (by simp) (fun m l y j hm c n a g=> ?_) (fun l c a g=> ?_)
    ·have ci:=BD l (whole y d) a8;have H:=yl l (whole y d);rw[bO,iq]at a;refine aw (ga @c (ga @n (ga @j @wj))) (ga @qp @ci) ?_;exact⟨_,rfl,a,by omega⟩
    ·rw[eg,iq]at a;rw[a,e]at i;clear a e q f s A;refine aw (ga @c (ga @u (ga @C @wj))) trivial ?_;rw[hk2]at i;exact C5 i a8
   ·have e:jA d x={x with id:={x.id with p:=d},file:=whole x.file d,fro:=whole x.fro d,til:=whole x.til d}:=by simp[jA,hk6]
    refine aw (ga @o (ga @u (ga @hg (ga @hk6 (ga @vR (ga @ef (ga @bJ @wj))))))) @qp ?_
    refine aX.overI x.over (fun m (l:List ar)=>[(12,iN m),(11,.d (.sl 33 (l.map ab)))]) (fun _ _=>_) (fun r l=>iq (r.map (whole · d)) l) (iq (x.over.map (whole · d)) []) (fun m l=>l.length≤m) [] a8 aA aA rfl rfl (by simp) (fun m l y j hm c n a g=> ?_) (fun l c a g=> ?_)
    ·have ci:=BD l (whole y d) a8;have H:=yl l (whole y d);rw[bO,iq]at a;refine aw (ga @c (ga @n (ga @j @wj))) (ga @qp @ci) ?_;exact⟨_,rfl,a,by omega⟩
    ·rw[eg,iq]at a;rw[a,e]at i;clear a e q f s A;refine aw (ga @c (ga @u (ga @C @wj))) trivial ?_;rw[hk6]at i;exact C5 i a8
   ·have e:jA d x={x with id:={x.id with p:=d},file:=whole x.file d}:=by simp[jA,n7,n2,n6]
    have O:(x.kind !=7)=true:=by simpa using n7
    have M:(x.kind==2)=false:=by simpa using n2
    have N:(x.kind==6)=false:=by simpa using n6
    refine aw (ga @o (ga @u (ga @hg (ga @O (ga @M (ga @N (ga @vR (ga @ef (ga @bJ @wj))))))))) @qp ?_
    refine aX.overI x.over (fun m (l:List ar)=>[(12,iN m),(11,.d (.sl 33 (l.map ab)))]) (fun _ _=>_) (fun r l=>iq (r.map (whole · d)) l) (iq (x.over.map (whole · d)) []) (fun m l=>l.length≤m) [] a8 aA aA rfl rfl (by simp) (fun m l y j hm c n a g=> ?_) (fun l c a g=> ?_)
    ·have ci:=BD l (whole y d) a8;have H:=yl l (whole y d);rw[bO,iq]at a;refine aw (ga @c (ga @n (ga @j @wj))) (ga @qp @ci) ?_;exact⟨_,rfl,a,by omega⟩
    ·rw[eg,iq]at a;rw[a,e]at i;clear a e q f s A;refine aw (ga @c (ga @u (ga @C @wj))) trivial ?_;exact C5 i a8
  ·rw[eg,bg]at i;refine aw @o trivial ?_;rw[i]
 ·have L:((dh bE p).2 !=0)=true:=by simpa using h
  rw[if_pos h];refine aI (F:=rO) Ja (by simp[rO]) ?_;simp only[rO];exact bx (ga @L (ga @eV @bc)) @s
end Go.Proofs.Q
namespace Go.Proofs.Q
open Go Go.Ab Go.Bb
def AM:CF:=⟨18, (.seq (fo [ox 3 1,o0 4 (.mov xF)]) (.seq (.seq (fo [o7 5 0]) (.block 0 (.loop (.trim [5,3,0] (.seq (.seq (fo [om 6 5,om 7 0,o9 8 0 7,o4 9 .lss 6 8]) (.cond (.t 9) .skip (.exit 0))) (.seq (.block 1 (.seq (.ops true [0,0,3,7,0,31] [om 12 0,om 13 5,oi 14 32 12 13,o2 15 32 14,o2 16 32 3,o0 17 (.eqa true dD false (.t 15) (.t 16))]) (.cond (.t 17) (.seq (fo [o0 4 (.mov xT)]) .ret) .skip))) (fo [om 10 5,o5 11 .add 10 1,om 5 11]))))))) (.seq (fo [o0 4 (.mov xF)]) .ret))),[.tmp 4]⟩
theorem Jn:aG Tryz.prog [100003] 23=some AM.erase:=by kernel_rfl
def AK:CF:=⟨26, (.seq (fo [ox 3 1,o0 4 (.box (.c (.agg iY))),o0 5 (.mov xF)]) (.seq (.seq (fo [o7 6 0]) (.block 0 (.loop (.trim [4,6,0,3] (.seq (.seq (fo [om 7 6,om 8 0,o9 9 0 8,o4 10 .lss 7 9]) (.cond (.t 10) .skip (.exit 0))) (.seq (.block 1 (.seq (.ops true [0,0,3,7,15,0,63] [om 13 0,om 14 6,oi 15 37 13 14,o1 16 0 15,o2 17 32 16,o2 18 32 3,o0 19 (.eqa true dD false (.t 17) (.t 18))]) (.cond (.t 19) (.seq (fo [om 20 0,om 21 6,oi 22 37 20 21,o1 23 32 22,o2 24 5 23,o8 5 4 24,o0 5 (.mov xT)]) .ret) .skip))) (fo [om 11 6,o5 12 .add 11 1,om 6 12]))))))) (.seq (fo [o0 25 (.bld l9 []),o8 5 4 25,o0 5 (.mov xF)]) .ret))),[.cell 4 (some 5),.tmp 5]⟩
theorem Jm:aG Tryz.prog [100003,300025] 21=some AK.erase:=by kernel_rfl
def AO:CF:=⟨21, (.seq (fo [o0 2 (.mov (.c (.nil 32)))]) (.seq (fo [o0 5 (.bsl false 25 32 0 [] []),om 3 5]) (.seq (.seq (fo [o7 4 0]) (.block 0 (.loop (.trim [4,0,3] (.seq (.seq (fo [om 6 4,om 7 0,o9 8 0 7,o4 9 .lss 6 8]) (.cond (.t 9) .skip (.exit 0))) (.seq (.block 1 (fo [om 12 3,om 13 0,om 14 4,oi 15 37 13 14,o1 16 0 15,o2 17 32 16,o0 18 (.bsf 32 1 cN [(0,32,(.t 17))]),o0 19 (.app false 25 32 32 (.t 12) (.t 18)),om 3 19])) (fo [om 10 4,o5 11 .add 10 1,om 4 11]))))))) (.seq (fo [om 20 3,om 2 20]) .ret)))),[.tmp 2]⟩
theorem Tp:aG Tryz.prog [100018] 51=some AO.erase:=by kernel_rfl
def AR:CF:=⟨19, (.seq (fo [o0 4 (.mov xF)]) (.seq (.seq (fo [o7 5 0]) (.block 0 (.loop (.trim [5,1,0] (.seq (.seq (fo [om 6 5,om 7 1,o9 8 0 7,o4 9 .lss 6 8]) (.cond (.t 9) .skip (.exit 0))) (.seq (.block 1 (.seq (fo [om 12 0,om 13 1,om 14 5,oi 15 32 13 14,o2 16 32 15,o6 17 23 [.t 12,.t 16],o0 18 (.not (.t 17))]) (.cond (.t 18) (.seq (fo [o0 4 (.mov xF)]) .ret) .skip))) (fo [om 10 5,o5 11 .add 10 1,om 5 11]))))))) (.seq (fo [o0 4 (.mov xT)]) .ret))),[.tmp 4]⟩
theorem Jr:aG Tryz.prog [] 50=some AR.erase:=by kernel_rfl
def AP:CF:=⟨67, (.seq (fo [o0 2 (.mov (.c (.nil 32)))]) (.seq (fo [o0 6 (.bsl false 25 32 0 [] []),om 3 6]) (.seq (.block 0 (.loop (.trim [3,0] (.seq (.seq (fo [om 7 3,o9 8 0 7,om 9 0,o9 10 0 9,o4 11 .lss 8 10]) (.cond (.t 11) .skip (.exit 0))) (.block 1 (.seq (fo [o0 4 (.mov (xi (-1)))]) (.seq (.seq (fo [o7 5 0]) (.block 2 (.loop (.trim [5,4,0,3] (.seq (.seq (fo [om 12 5,om 13 0,o9 14 0 13,o4 15 .lss 12 14]) (.cond (.t 15) .skip (.exit 2)))
 (.seq (.block 3 (.seq (.ops true [0,0,0,6,14,30,63,127,255,511,511,511,3583,7679,15871,32255,65535,131071,262143,524287,1048575,2097151,4194303,4194303,16777215,33554431,67108863,4194303,4194303,406847487,943718399,2017460223,4294967295,8589934591,17179869183,34359738367] [om 18 3,om 19 0,om 20 5,oi 21 37 19 20,o1 22 0 21,o2 23 32 22,o6 24 23 [.t 18,.t 23],o0 25 (.not (.t 24)),om 26 25,oh 27 26 true 3,oh 28 26 true 0,oh 29 26 true 5,og 30 26 true (.iad 37 (.t 28) (.t 29)),og 31 26 true (.fad 32 (.t 30)),og 32 26 true (.ld (some 5) (.t 31)),og 33 26 true (.call (.fn 42) [.t 32]),og 34 26 true (.call (.fn 50) [.t 27,.t 33]),o0 35 (.pick (.t 26) (.t 34) xF),om 36 35,oh 37 36 true 4,og 38 36 true (.bin .lss (.t 37) (xi 0)),oh 39 36 true 38,oh 40 39 false 0,oh 41 39 false 5,og 42 39 false (.iad 37 (.t 40) (.t 41)),og 43 39 false (.fad 0 (.t 42)),og 44 39 false (.ld (some 32) (.t 43)),oh 45 39 false 0,oh 46 39 false 4,og 47 39 false (.iad 37 (.t 45) (.t 46)),og 48 39 false (.fad 0 (.t 47)),og 49 39 false (.ld (some 32) (.t 48)),og 50 39 false (.call (.fn 54) [.t 44,.t 49]),og 51 39 false (.bin .lss (.t 50) (xi 0)),og 52 36 true (.pick (.t 39) xT (.t 51)),o0 53 (.pick (.t 36) (.t 52) xF)]) (.cond (.t 53) (fo [om 54 5,om 4 54]) .skip))) (fo [om 16 5,o5 17 .add 16 1,om 5 17]))))))) (.seq (.seq (fo [om 55 4,o5 56 .lss 55 0]) (.cond (.t 56)
 (.seq (fo [om 57 3,om 2 57]) .ret) .skip)) (fo [om 58 3,om 59 0,om 60 4,oi 61 37 59 60,o1 62 0 61,o2 63 32 62,o0 64 (.bsf 32 1 cN [(0,32,(.t 63))]),o0 65 (.app false 25 32 32 (.t 58) (.t 64)),om 3 65]))))))))) (.seq (fo [om 66 3,om 2 66]) .ret)))),[.tmp 2]⟩
theorem Tq:aG Tryz.prog [100064] 55=some AP.erase:=by kernel_rfl
def rY:CF:=⟨38, (.seq (fo [ox 3 1,o0 4 (.box (.c (.agg gG))),o0 5 (.mov xF)]) (.seq (fo [om 11 0,o1 12 0 3,o2 13 32 12,o6 14 21 [.t 11,.t 13],om 10 14,oe 15 10 0,oe 16 10 1,o0 6 (.box (.c (.agg iY))),o8 5 6 15,om 7 16]) (.seq (fo [o2 18 5 6,o6 19 33 [.t 18],om 17 19,oe 20 17 0,oe 21 17 1,om 8 20,om 9 21]) (.seq (.seq (fo [o1 22 32 3,o3 23 22,o5 24 .lss 23 0,om 25 24,og 26 25 false (.fad 32 (.t 3)),og 27 25 false (.ld none (.t 26)),oh 28 25 false 8,og 29 25 false (.len 0 (.t 28)),og 30 25 false (.bin .geq (.t 27) (.t 29)),o0 31 (.pick (.t 25) xT (.t 30))]) (.cond (.t 31) (.seq (fo [o0 32 (.bld eu []),o8 172 4 32,o0 5 (.mov xF)]) .ret) .skip)) (.seq (fo [om 33 8,o1 34 32 3,o3 35 34,oi 36 172 33 35,o2 37 172 36,o8 172 4 37,o0 5 (.mov xT)]) .ret))))),[.cell 4 (some 172),.tmp 5]⟩
theorem Js:aG Tryz.prog [100003,300032] 124=some rY.erase:=by kernel_rfl
def AT:CF:=⟨17, (.seq (fo [o0 2 (.box (.t 0)),ox 3 1,o0 4 (.box (.c (.agg dW)))]) (.seq (.seq (fo [o1 5 32 2,o3 6 5,o5 7 .geq 6 0,om 8 7,og 9 8 true (.fad 0 (.t 2)),og 10 8 true (.ld (some 32) (.t 9)),og 11 8 true (.bld cN []),og 12 8 true (.eqa true dD false (.t 10) (.t 11)),o0 13 (.pick (.t 8) (.t 12) xF)]) (.cond (.t 13) (fo [o2 14 32 3,o1 15 0 2,o8 32 15 14]) .skip)) (.seq (fo [o2 16 33 2,o8 33 4 16]) .ret))),[.cell 4 (some 33)]⟩
theorem Ts:aG Tryz.prog [100003,300011] 129=some AT.erase:=by kernel_rfl
def AY:CF:=⟨7, (.seq (fo [ox 1 0,o0 2 (.mov xF)]) (.seq (fo [o1 3 0 1,o2 4 32 3,o0 5 (.bld cN []),o0 6 (.eqa true dD true (.t 4) (.t 5)),om 2 6]) .ret)),[.tmp 2]⟩
theorem Tv:aG Tryz.prog [100001,300005] 123=some AY.erase:=by kernel_rfl
def AU:CF:=⟨11, (.seq (fo [ox 1 0,o0 2 (.mov xF)]) (.seq (fo [o1 3 33 1,o3 4 3,o5 5 .eql 4 1,om 6 5,og 7 6 true (.fad 67 (.t 1)),og 8 6 true (.ld none (.t 7)),og 9 6 true (.bin .eql (.t 8) (xi 4)),o0 10 (.pick (.t 6) (.t 9) xF),om 2 10]) .ret)),[.tmp 2]⟩
theorem Tt:aG Tryz.prog [100001] 126=some AU.erase:=by kernel_rfl
def AX:CF:=⟨33, (.seq (fo [ox 5 1,ox 6 2,ox 7 3,o7 8 0]) (.seq (.seq (fo [o2 11 33 5,o6 12 123 [.t 11],o0 13 (.not (.t 12)),om 14 13,og 15 14 false (.ld (some 33) (.t 5)),og 16 14 false (.ld (some 33) (.t 6)),og 17 14 false (.eqa true dv false (.t 15) (.t 16)),o0 18 (.pick (.t 14) xT (.t 17))]) (.cond (.t 18) (.seq (fo [o7 8 0]) .ret) .skip)) (.seq (fo [om 20 0,o2 21 33 5,o6 22 124 [.t 20,.t 21],om 19 22,oe 23 19 0,oe 24 19 1,o0 9 (.box (.c (.agg gG))),o8 172 9 23,om 10 24]) (.seq (.seq (fo [om 25 10,o0 26 (.not (.t 25))]) (.cond (.t 26) (.seq (fo [o7 8 7]) .ret) .skip)) (.seq (.seq (.ops true [0,0,3,0,15,31] [o2 27 33 6,o2 28 32 7,o6 29 129 [.t 27,.t 28],o2 30 172 9,o6 31 177 [.t 29,.t 30],o0 32 (.not (.t 31))]) (.cond (.t 32) (.seq (fo [o7 8 8]) .ret) .skip)) (.seq (fo [o7 8 0]) .ret)))))),[.tmp 8]⟩
theorem Tu:aG Tryz.prog [100005,100006,100007] 127=some AX.erase:=by kernel_rfl
def AS:CF:=⟨103, (.seq (fo [ox 4 1,ox 5 2,o7 6 0]) (.seq (.seq (fo [o1 16 1 4,o2 17 33 16,o6 18 123 [.t 17]]) (.cond (.t 18) (.seq (fo [om 20 0,o1 21 1 4,o2 22 33 21,o6 23 124 [.t 20,.t 22],om 19 23,oe 24 19 0,oe 25 19 1,o0 7 (.box (.c (.agg gG))),o8 172 7 24,om 8 25]) (.seq (.seq (fo [om 26 8,o0 27 (.not (.t 26))]) (.cond (.t 27) (.seq (fo [o7 6 7]) .ret) .skip)) (.seq (fo [o1 28 0 4,o3 29 28,o2 30 172 7,o6 31 125 [.t 29,.t 30],o0 32 (.not (.t 31))]) (.cond (.t 32) (.seq (fo [o7 6 8]) .ret) .skip)))) .skip)) (.seq (.seq (fo [o1 33 35 4,o2 34 33 33,o6 35 123 [.t 34]]) (.cond (.t 35) (.seq (fo [om 37 0,o1 38 35 4,o2 39 33 38,o6 40 124 [.t 37,.t 39],om 36 40,oe 41 36 0,oe 42 36 1,o0 9 (.box (.c (.agg gG))),o8 172 9 41,om 10 42]) (.seq (.seq (fo [om 43 10,o0 44 (.not (.t 43))]) (.cond (.t 44) (.seq (fo [o7 6 7]) .ret) .skip)) (.seq (fo [o2 45 172 9,o6 46 126 [.t 45],o0 47 (.not (.t 46))]) (.cond (.t 47) (.seq (fo [o7 6 8]) .ret) .skip)))) .skip)) (.seq (.seq (fo [om 48 0,o1 49 71 4,o2 50 33 49,o1 51 1 4,o2 52 33 51,o2 53 32 5,o6 54 127 [.t 48,.t 50,.t 52,.t 53],om 11 54]) (.seq (fo [om 55 11,o5 56 .neq 55 0]) (.cond (.t 56) (.seq (fo [om 57 11,om 6 57]) .ret) .skip))) (.seq (.seq (fo [om 58 0,o1 59 104 4,o2 60 33 59,o1 61 1 4,o2 62 33 61,o2 63 32 5,o6 64 127 [.t 58,.t 60,.t 62,.t 63],om 12 64]) (.seq (fo [om 65 12,o5 66 .neq 65 0]) (.cond (.t 66) (.seq (fo [om 67 12,om 6 67]) .ret) .skip)))
 (.seq (.seq (fo [o7 13 0]) (.block 0 (.loop (.trim [13,0,5,4] (.seq (.seq (fo [om 68 13,o1 69 138 4,o3 70 69,o9 71 0 70,o4 72 .lss 68 71]) (.cond (.t 72) .skip (.exit 0))) (.seq (.block 1 (.seq (.seq (fo [o1 75 138 4,o3 76 75,om 77 13,oi 78 33 76 77,o2 79 33 78,o6 80 123 [.t 79],o0 81 (.not (.t 80))]) (.cond (.t 81) (.exit 1) .skip)) (.seq (fo [om 83 0,o1 84 138 4,o3 85 84,om 86 13,oi 87 33 85 86,o2 88 33 87,o6 89 124 [.t 83,.t 88],om 82 89,oe 90 82 0,oe 91 82 1,o0 14 (.box (.c (.agg gG))),o8 172 14 90,om 15 91]) (.seq (.seq (fo [om 92 15,o0 93 (.not (.t 92))]) (.cond (.t 93) (.seq (fo [o7 6 7]) .ret) .skip)) (.seq (.ops true [0,1,0,4,0,28,0,127,255] [o1 94 0 4,o3 95 94,o1 96 1 4,o2 97 33 96,o2 98 32 5,o6 99 129 [.t 97,.t 98],o2 100 172 14,o6 101 128 [.t 95,.t 99,.t 100],o0 102 (.not (.t 101))]) (.cond (.t 102) (.seq (fo [o7 6 8]) .ret) .skip)))))) (fo [om 73 13,o5 74 .add 73 1,om 13 74]))))))) (.seq (fo [o7 6 0]) .ret))))))),[.tmp 6]⟩
theorem Tr:aG Tryz.prog [100004,100005] 88=some AS.erase:=by kernel_rfl
def B0:CF:=⟨27, (.seq (fo [ox 4 1,ox 5 2,o7 6 0]) (.seq (.seq (fo [o7 7 0]) (.block 0 (.loop (.trim [7,5,4,0] (.seq (.seq (fo [om 9 7,o1 10 4 4,o3 11 10,o9 12 0 11,o4 13 .lss 9 12]) (.cond (.t 13) .skip (.exit 0))) (.seq (.block 1 (.seq (.ops true [0,0,2,0,14,30,0,127,255] [om 16 0,o1 17 4 4,o3 18 17,om 19 7,oi 20 139 18 19,o2 21 139 20,o2 22 32 5,o6 23 88 [.t 16,.t 21,.t 22],om 8 23]) (.seq (fo [om 24 8,o5 25 .neq 24 0]) (.cond (.t 25) (.seq (fo [om 26 8,om 6 26]) .ret) .skip)))) (fo [om 14 7,o5 15 .add 14 1,om 7 15]))))))) (.seq (fo [o7 6 0]) .ret))),[.tmp 6]⟩
theorem Tx:aG Tryz.prog [100004,100005] 52=some B0.erase:=by kernel_rfl
def rU:CF:=⟨95, (.seq (fo [o7 2 0]) (.seq (.seq (fo [om 10 0,o9 11 0 10,o5 12 .gtr 11 400]) (.cond (.t 12) (.seq (fo [o7 2 4]) .ret) .skip)) (.seq (.seq (fo [o7 3 0]) (.block 0 (.loop (.trim [3,0] (.seq (.seq (fo [om 13 3,om 14 0,o9 15 0 14,o4 16 .lss 13 15]) (.cond (.t 16) .skip (.exit 0))) (.seq (.block 1 (.seq (fo [om 20 0,om 21 3,oi 22 37 20 21,o1 23 32 22,o2 24 5 23,o6 25 49 [.t 24],om 19 25,oe 26 19 0,oe 27 19 1,o0 4 (.box (.c (.agg cN))),o8 32 4 26,om 5 27]) (.seq (.seq (fo [om 28 5,o5 29 .neq 28 0]) (.cond (.t 29) (.seq (fo [om 30 5,om 2 30]) .ret) .skip)) (.seq (.seq (.ops true [0,0,0,6,14,30,63] [o2 31 32 4,om 32 0,om 33 3,oi 34 37 32 33,o1 35 0 34,o2 36 32 35,o0 37 (.eqa true dD true (.t 31) (.t 36))]) (.cond (.t 37) (.seq (fo [o7 2 13]) .ret) .skip)) (.seq (.ops true [0,1,3,7,7,23,63,127,255,7,1023,2047,4095] [om 38 3,o5 39 .gtr 38 0,om 40 39,oh 41 40 true 0,oh 42 40 true 3,og 43 40 true (.bin .sub (.t 42) (xi 1)),og 44 40 true (.iad 37 (.t 41) (.t 43)),og 45 40 true (.fad 0 (.t 44)),og 46 40 true (.ld (some 32) (.t 45)),og 47 40 true (.ld (some 32) (.t 4)),og 48 40 true (.call (.fn 54) [.t 46,.t 47]),og 49 40 true (.bin .geq (.t 48) (xi 0)),o0 50 (.pick (.t 40) (.t 49) xF)]) (.cond (.t 50) (.seq (fo [o7 2 9]) .ret) .skip)))))) (fo [om 17 3,o5 18 .add 17 1,om 3 18]))))))) (.seq (fo [om 51 0,o6 52 51 [.t 51],om 6 52])
 (.seq (.seq (fo [o7 7 0]) (.block 2 (.loop (.trim [7,0,6] (.seq (.seq (fo [om 53 7,om 54 0,o9 55 0 54,o4 56 .lss 53 55]) (.cond (.t 56) .skip (.exit 2))) (.seq (.block 3 (.seq (fo [om 59 6,om 60 0,om 61 7,oi 62 37 60 61,o1 63 32 62,o2 64 5 63,o6 65 42 [.t 64],o6 66 50 [.t 59,.t 65],o0 67 (.not (.t 66))]) (.cond (.t 67) (.seq (fo [o7 2 19]) .ret) .skip))) (fo [om 57 7,o5 58 .add 57 1,om 7 58]))))))) (.seq (.seq (fo [om 68 0,o6 69 55 [.t 68],o9 70 0 69,om 71 0,o9 72 0 71,o4 73 .lss 70 72]) (.cond (.t 73) (.seq (fo [o7 2 20]) .ret) .skip)) (.seq (.seq (fo [o7 8 0]) (.block 4 (.loop (.trim [8,0] (.seq (.seq (fo [om 74 8,om 75 0,o9 76 0 75,o4 77 .lss 74 76]) (.cond (.t 77) .skip (.exit 4))) (.seq (.block 5 (.seq (.ops true [0,0,0,6,14,30,0,0,192,448,960,2047,4095] [om 80 0,om 81 0,om 82 8,oi 83 37 81 82,o1 84 32 83,o2 85 5 84,om 86 0,om 87 8,oi 88 37 86 87,o1 89 0 88,o2 90 32 89,o6 91 52 [.t 80,.t 85,.t 90],om 9 91]) (.seq (fo [om 92 9,o5 93 .neq 92 0]) (.cond (.t 93) (.seq (fo [om 94 9,om 2 94]) .ret) .skip)))) (fo [om 78 8,o5 79 .add 78 1,om 8 79]))))))) (.seq (fo [o7 2 0]) .ret)))))))),[.tmp 2]⟩
theorem Jj:aG Tryz.prog [] 20=some rU.erase:=by kernel_rfl
def AZ:CF:=⟨37, (.seq (fo [ox 3 1,o0 4 (.mov (.c (.nil 37)))]) (.seq (fo [o7 5 0]) (.seq (.block 0 (.loop (.trim [5,3,0] (.seq (.seq (.ops true [0,0,2,7,15,31,31,127,255,511,31,1055,4095,8191,16383] [om 7 5,om 8 0,o9 9 0 8,o4 10 .lss 7 9,om 11 10,oh 12 11 true 0,oh 13 11 true 5,og 14 11 true (.iad 37 (.t 12) (.t 13)),og 15 11 true (.fad 0 (.t 14)),og 16 11 true (.ld (some 32) (.t 15)),og 17 11 true (.fad 0 (.t 3)),og 18 11 true (.ld (some 32) (.t 17)),og 19 11 true (.call (.fn 54) [.t 16,.t 18]),og 20 11 true (.bin .lss (.t 19) (xi 0)),o0 21 (.pick (.t 11) (.t 20) xF)]) (.cond (.t 21) .skip (.exit 0))) (.block 1 (fo [om 22 5,o5 23 .add 22 1,om 5 23])))))) (.seq (.ops true [0,0,0,6,15,0,32,127,255] [o0 24 (.bsl false 44 37 0 [] []),om 25 0,om 26 5,o0 27 (.slc 37 (.t 25) none (some (.t 26))),o0 28 (.app false 44 37 120 (.t 24) (.t 27)),o2 29 37 3,o0 30 (.bsf 37 1 sJ [(0,37,(.t 29))]),o0 31 (.app false 44 37 120 (.t 28) (.t 30)),om 6 31]) (.seq (fo [om 32 6,om 33 0,om 34 5,o0 35 (.slc 37 (.t 33) (some (.t 34)) none),o0 36 (.app false 44 37 120 (.t 32) (.t 35)),om 4 36]) .ret))))),[.tmp 4]⟩
theorem Tw:aG Tryz.prog [100003,100030] 53=some AZ.erase:=by kernel_rfl
def ir:CF:=⟨64, (.seq (fo [ox 3 1,o0 4 (.mov (.c (.nil 37))),o0 5 (.box (.c (.agg cN))),o7 6 0]) (.seq (fo [o2 13 5 3,o6 14 49 [.t 13],om 12 14,oe 15 12 0,oe 16 12 1,o0 7 (.box (.c (.agg cN))),o8 32 7 15,om 8 16]) (.seq (.seq (fo [om 17 8,o5 18 .neq 17 0]) (.cond (.t 18) (.seq (fo [o0 19 (.bsf 37 0 [] []),o0 20 (.bld cN []),om 21 8,om 4 19,o8 32 5 20,om 6 21]) .ret) .skip)) (.seq (.seq (fo [om 23 0,o2 24 32 7,o6 25 21 [.t 23,.t 24],om 22 25,oe 26 22 0,oe 27 22 1,o0 9 (.box (.c (.agg iY))),o8 5 9 26,om 10 27]) (.seq (fo [om 28 10]) (.cond (.t 28) (.seq (.seq (fo [o2 29 5 3,o2 30 5 9,o6 31 32 [.t 29,.t 30]]) (.cond (.t 31) (.seq (fo [o0 32 (.bsf 37 0 [] []),o0 33 (.bld cN []),om 4 32,o8 32 5 33,o7 6 6]) .ret) .skip)) (.seq (fo [o0 34 (.bsf 37 0 [] []),o0 35 (.bld cN []),om 4 34,o8 32 5 35,o7 6 14]) .ret)) .skip))) (.seq (.seq (.ops true [0,1,0,7,15,31] [om 36 0,o6 37 51 [.t 36],o2 38 5 3,o6 39 42 [.t 38],o6 40 50 [.t 37,.t 39],o0 41 (.not (.t 40))]) (.cond (.t 41) (.seq (fo [o0 42 (.bsf 37 0 [] []),o0 43 (.bld cN []),om 4 42,o8 32 5 43,o7 6 19]) .ret) .skip)) (.seq (.seq (fo [om 44 0,o2 45 5 3,o2 46 32 7,o6 47 52 [.t 44,.t 45,.t 46],om 11 47]) (.seq (fo [om 48 11,o5 49 .neq 48 0]) (.cond (.t 49) (.seq (fo [o0 50 (.bsf 37 0 [] []),o0 51 (.bld cN []),om 52 11,om 4 50,o8 32 5 51,om 6 52]) .ret) .skip))) (.seq (.seq (fo [om 53 0,o9 54 0 53,o5 55 .geq 54 400]) (.cond (.t 55) (.seq (fo [o0 56 (.bsf 37 0 [] []),o0 57 (.bld cN []),om 4 56,o8 32 5 57,o7 6 4]) .ret) .skip))
 (.seq (.ops true [0,0,0,6,15,0,31,127,255] [om 58 0,o2 59 32 7,o2 60 5 3,o0 61 (.bld sJ [(0,32,(.t 59)),(32,5,(.t 60))]),o6 62 53 [.t 58,.t 61],o2 63 32 7,om 4 62,o8 32 5 63,o7 6 0]) .ret)))))))),[.tmp 4,.cell 5 (some 32),.tmp 6]⟩
theorem tV:aG Tryz.prog [100003,100019,300020,100032,300033,100034,300035,100042,300043,100050,300051,100056,300057,300061] 19=some ir.erase:=by kernel_rfl
end Go.Proofs.Q
