/- Part of a proof. -/
import Derived.Test.YtfoljakejdgfcaaGreatDoorPAY
import Derived.Ground.SlsfProg
import Derived.Shelf.SlSortCmp.NoneTotal
import Derived.Test.YtfoljakejdgfcaaGreatDoorPAX
set_option linter.unusedVariables false
set_option linter.unusedSimpArgs false
namespace Go.Proofs.Q
open Go Go.Bb Go.RowKit Go.Proofs.Lg
open Go.Ab (D RD)
set_option maxHeartbeats 2000000 in
theorem Un(p:b9)(I:xa p)(K:p.changes.length≤9223372036854775807):aE Tryz.prog 130 [.agg (bk p)] (dI (if isName p.author=false then 5 else if 1000<(p.message.size:Int)then 4 else if p.time<0∨1099511627776<p.time then 2 else if fN p.deps≠0 then fN p.deps else if(p.changes.length:Int)=0 then 1 else if 400<(p.changes.length:Int)then 4 else 0)):=by
 have d:=JK p.author I.author;obtain⟨X,a⟩: ∃X,X=if isName p.author=false then 5 else if 1000<(p.message.size:Int)then 4 else if p.time<0∨1099511627776<p.time then 2 else if fN p.deps≠0 then fN p.deps else if(p.changes.length:Int)=0 then 1 else if 400<(p.changes.length:Int)then 4 else 0:=⟨_,rfl⟩
 rw[←a];by_cases l:isName p.author=false
 ·rw[if_pos l]at a;rw[l]at d;refine aI (F:=je) vJ (by simp[je]) ?_;simp only[je];refine aw trivial @d ?_;rw[a]
 rw[if_neg l]at a;rw[show isName p.author=true by simpa using l]at d;by_cases i:1000<(p.message.size:Int)
 ·rw[if_pos i]at a;have g:decide ((p.message.size:Int)>1000)=true:=by simp;omega
  refine aI (F:=je) vJ (by simp[je]) ?_;simp only[je];refine aw @g @d ?_;rw[a]
 rw[if_neg i]at a;have g:decide ((p.message.size:Int)>1000)=false:=by simp;omega
 by_cases D:p.time<0∨1099511627776<p.time
 ·rw[if_pos D]at a;refine aI (F:=je) vJ (by simp[je]) ?_;simp only[je]
  repeat' first|refine ak (fun _=> ?_) fun _=> ?_|refine bb @g @d ?_|exact ba @g @d|fail
  all_goals first|(rw[a];done)|omega
 rw[if_neg D]at a;have B:decide (p.time<0)=false:=by simp;omega
 have C:decide (p.time>1099511627776)=false:=by simp;omega
 by_cases G:100<(p.deps.length:Int)
 ·have s:decide ((p.deps.length:Int)>100)=true:=by simp;omega
  have f:fN p.deps=4:=by unfold fN;rw[if_pos G]
  rw[f,if_pos (by decide)]at a;refine aI (F:=je) vJ (by simp[je]) ?_;simp only[je];refine aw (ga @g (ga @B (ga @C @s))) @d ?_;rw[a]
 have s:decide ((p.deps.length:Int)>100)=false:=by simp;omega
 obtain⟨E,t⟩: ∃E,E=fN p.deps:=⟨_,rfl⟩
 have e:E=il none p.deps:=by rw[t];unfold fN;rw[if_neg G]
 rw[←t]at a;obtain⟨Y,H⟩: ∃Y:Int,Y=if(p.changes.length:Int)=0 then 1 else if 400<(p.changes.length:Int)then 4 else 0:=⟨_,rfl⟩
 rw[←H]at a;clear t I l;refine aI (F:=je) vJ (by simp[je]) ?_;simp only[je];refine aw (ga @g (ga @B (ga @C @s))) @d ?_
 refine aX.overI p.deps (fun k (b:Option Dg×List aa)=>[(33,iN k)]) (fun _ b=>b.2) (fun r b=>il b.1 r) E (fun k b=>b.1=if k=0 then none else p.deps[k-1]?) (none,[]) a8 aA aA rfl e rfl (fun k b x hg L f w c o=> ?_) (fun b f c o=> ?_)
 ·obtain⟨q,J⟩:=b;dsimp only at c o;cases k with
  |zero=>
   obtain rfl:q=none:=o;have u:decide ((0:Int)<(p.deps.length:Int))=true:=decide_eq_true a8;have z:IntKind.i64.wrap ((0:Int)+1)=1:=by rfl
   have v:p.deps[0]?=some x:=hg;clear f w e
   repeat' first|refine ak (fun _=> ?_) fun _=> ?_|refine aD ?_|refine aj.data (Fc _ _) rfl ?_|simp only[u,z,v,eV,bc,aL,kI,iL,iz,gt_iff_lt,decide_false,wj,wy,qg,aC,reduceCtorEq,reduceIte,Nat.reduceAdd,Nat.reduceMul,Nat.reduceEqDiff,Nat.reduceLT,Nat.reduceLeDiff,Nat.reduceSub,ax,aB,ay,au]
   ·rename_i h;rw[il,if_pos (by simp[isZero,h])]at c;rw[a,c];simp
   ·rename_i h;rw[il,if_neg (by simp[isZero,h]),if_neg (by simp)]at c;exact⟨(some x,_),rfl,c,rfl⟩
  |succ j=>
   obtain⟨y,A⟩: ∃y,p.deps[j]?=some y:=⟨_,bV a8⟩
   obtain rfl:q=some y:=by rw[o,if_neg a8];exact A
   have n:IntKind.i64.wrap (((j+1:Nat):Int)-1)=(j:Int):=ck a8 a8;have m:decide (((j+1:Nat):Int)>0)=true:=decide_eq_true a8;clear e
   repeat' first|refine ak (fun _=> ?_) fun _=> ?_|refine bb (ga @f (ga @w (ga @hg (ga @A (ga @n (ga @m (ga @eV (ga @bc @wj)))))))) @Fc ?_|exact ba (ga @f (ga @w (ga @hg (ga @A (ga @n (ga @m (ga @eV (ga @bc @wj)))))))) @Fc|fail
   ·rename_i h;rw[il,if_pos (by simp[isZero,h])]at c;rw[a,c];simp
   ·rename_i h i;rw[il,if_neg (by simp[isZero,h]),if_pos (by simpa using i)]at c;rw[a,c];simp
   ·rename_i h i;rw[il,if_neg (by simp[isZero,h]),if_neg (by simpa using i)]at c;exact⟨(some x,_),rfl,c,by simpa using hg.symm⟩
 ·rw[il]at c;rw[c,if_neg (by simp)]at a
  repeat' first|refine ak (fun _=> ?_) fun _=> ?_|refine aD ?_|simp only[f,wy,qg,aC,reduceCtorEq,reduceIte,Nat.reduceAdd,Nat.reduceMul,Nat.reduceEqDiff,Nat.reduceLT,Nat.reduceLeDiff,Nat.reduceSub,ax,aB,ay,au]
  all_goals(rw[a,H];simp_all;try omega)
end Go.Proofs.Q
namespace Go.Proofs
open Go.Shelf
def Tryz.laysSortIds_ren:Go.Shelf.Ren:=⟨fun|6=>194|15=>165|14=>250|28=>225|29=>226|20=>275|21=>276|22=>277|23=>278|24=>279|25=>280|26=>281|27=>282|46=>290|47=>261|48=>262|49=>291|50=>292|57=>295|n=>n,fun|22=>57|24=>60|25=>134|3=>3|39=>162|0=>0|53=>158|55=>207|4=>4|46=>239|45=>238|50=>137|5=>5|9=>9|66=>267|70=>271|76=>291|77=>292|n=>n,fun|n=>n⟩
theorem Tryz.laysSortIds:Go.Proofs.SlLaysF0.n6 Tryz.prog Tryz.laysSortIds_ren:={
 mixed:=by kernel_rfl
 f6:=⟨Tryz.f194.name,by decide,Tryz.func194.trans (congrArg some (by kernel_rfl))⟩
 f14:=⟨Tryz.f250.name,by decide,Tryz.func250.trans (congrArg some (by kernel_rfl))⟩
 f15:=Tryz.func165.trans (congrArg some (by kernel_rfl))
 f20:=⟨Tryz.f275.name,by decide,Tryz.func275.trans (congrArg some (by kernel_rfl))⟩
 f21:=⟨Tryz.f276.name,by decide,Tryz.func276.trans (congrArg some (by kernel_rfl))⟩
 f22:=⟨Tryz.f277.name,by decide,Tryz.func277.trans (congrArg some (by kernel_rfl))⟩
 f23:=⟨Tryz.f278.name,by decide,Tryz.func278.trans (congrArg some (by kernel_rfl))⟩
 f24:=⟨Tryz.f279.name,by decide,Tryz.func279.trans (congrArg some (by kernel_rfl))⟩
 f25:=⟨Tryz.f280.name,by decide,Tryz.func280.trans (congrArg some (by kernel_rfl))⟩
 f26:=⟨Tryz.f281.name,by decide,Tryz.func281.trans (congrArg some (by kernel_rfl))⟩
 f27:=⟨Tryz.f282.name,by decide,Tryz.func282.trans (congrArg some (by kernel_rfl))⟩
 f28:=Tryz.func225.trans (congrArg some (by kernel_rfl))
 f29:=Tryz.func226.trans (congrArg some (by kernel_rfl))
 f46:=⟨Tryz.f290.name,by decide,Tryz.func290.trans (congrArg some (by kernel_rfl))⟩
 f47:=Tryz.func261.trans (congrArg some (by kernel_rfl))
 f48:=Tryz.func262.trans (congrArg some (by kernel_rfl))
 f49:=⟨Tryz.f291.name,by decide,Tryz.func291.trans (congrArg some (by kernel_rfl))⟩
 f50:=⟨Tryz.f292.name,by decide,Tryz.func292.trans (congrArg some (by kernel_rfl))⟩
 f57:=⟨Tryz.f295.name,by decide,Tryz.func295.trans (congrArg some (by kernel_rfl))⟩
 t0:=Tryz.underlying0
 a0:=Tryz.isAgg0
 z0:=Tryz.sizeOf0
 v0:=Tryz.zeroValue0
 t3:=Tryz.underlying3
 a3:=Tryz.isAgg3
 z3:=Tryz.sizeOf3
 v3:=Tryz.zeroValue3
 t4:=Tryz.underlying4
 a4:=Tryz.isAgg4
 z4:=Tryz.sizeOf4
 v4:=Tryz.zeroValue4
 t5:=Tryz.underlying5
 a5:=Tryz.isAgg5
 z5:=Tryz.sizeOf5
 v5:=Tryz.zeroValue5
 t9:=Tryz.underlying9
 a9:=Tryz.isAgg9
 z9:=Tryz.sizeOf9
 v9:=Tryz.zeroValue9
 t22:=Tryz.underlying57
 a22:=Tryz.isAgg57
 z22:=Tryz.sizeOf57
 v22:=Tryz.zeroValue57
 t25:=Tryz.underlying134
 a25:=Tryz.isAgg134
 z25:=Tryz.sizeOf134
 v25:=Tryz.zeroValue134
 t39:=Tryz.underlying162
 a39:=Tryz.isAgg162
 z39:=Tryz.sizeOf162
 v39:=Tryz.zeroValue162
 t45:=Tryz.underlying238
 a45:=Tryz.isAgg238
 z45:=Tryz.sizeOf238
 v45:=Tryz.zeroValue238
 t46:=Tryz.underlying239
 a46:=Tryz.isAgg239
 z46:=Tryz.sizeOf239
 v46:=Tryz.zeroValue239
 t50:=Tryz.underlying137
 a50:=Tryz.isAgg137
 z50:=Tryz.sizeOf137
 v50:=Tryz.zeroValue137
 t53:=Tryz.underlying158
 a53:=Tryz.isAgg158
 z53:=Tryz.sizeOf158
 v53:=Tryz.zeroValue158
 t55:=Tryz.underlying207
 a55:=Tryz.isAgg207
 z55:=Tryz.sizeOf207
 v55:=Tryz.zeroValue207
 t66:=Tryz.underlying267
 a66:=Tryz.isAgg267
 z66:=Tryz.sizeOf267
 v66:=Tryz.zeroValue267
 t70:=Tryz.underlying271
 a70:=Tryz.isAgg271
 z70:=Tryz.sizeOf271
 v70:=Tryz.zeroValue271
 t76:=Tryz.underlying291
 a76:=Tryz.isAgg291
 z76:=Tryz.sizeOf291
 v76:=Tryz.zeroValue291
 t77:=Tryz.underlying292
 a77:=Tryz.isAgg292
 z77:=Tryz.sizeOf292
 v77:=Tryz.zeroValue292}
end Go.Proofs
namespace Go.Proofs.Q
open Go Go.Bb Go.RowKit Go.Proofs.Lg
open Go.Ab (D RD)
theorem qq(l:List Dg)(d:Dg):aE Tryz.prog 23 [.sl 32 (l.map aq),.agg (aq d)] (dB (bN l d)):=by
 refine aE.big (enters_of Jn) 0 rfl fun b=> ?_;rw[aL]at b;refine aI (F:=AM) Jn (by simp[AM]) ?_;simp only[AM];refine aw trivial trivial ?_;refine aX.over l (fun k (_:Unit)=>[(5,iN k)]) (fun _ _=>[]) (fun r _=>bN r d) (bN l d) () b aA aA rfl rfl (fun k _ x hg f a c e=> ?_) (fun _ a e=> ?_)
 ·repeat' first|refine ak (fun _=> ?_) fun _=> ?_|refine bb (ga @a (ga @c @hg)) trivial ?_|exact ba (ga @a (ga @c @hg)) trivial|fail
  all_goals(simp_all[bN,bS];try exact bQ)
 ·refine aw @a trivial ?_
  all_goals(simp_all[bN,bS];try exact bQ)
theorem nD(l m:List Dg):aE Tryz.prog 50 [.sl 32 (l.map aq),.sl 32 (m.map aq)] (dB (gj l m)):=by
 refine aE.big (enters_of Jr) 1 rfl fun b=> ?_;rw[aL]at b;refine aI (F:=AR) Jr (by simp[AR]) ?_;simp only[AR];refine aw trivial trivial ?_;refine aX.over m (fun k (_:Unit)=>[(5,iN k)]) (fun _ _=>[]) (fun r _=>gj l r) (gj l m) () b aA aA rfl rfl (fun k _ x hg e a c d=> ?_) (fun _ a d=> ?_)
 ·repeat' first|refine ak (fun _=> ?_) fun _=> ?_|refine bb (ga @a (ga @c @hg)) @qq ?_|exact ba (ga @a (ga @c @hg)) @qq|fail
  all_goals(simp_all[gj,bS];try exact bQ)
 ·refine aw @a trivial ?_
  all_goals(simp_all[gj,bS];try exact bQ)
theorem vQ(s:aP)(d:Dg):aE Tryz.prog 21 [.sl 37 (s.map b8),.agg (aq d)] (.tup [.agg (bk ((bM s d).getD .zero)),dB (bM s d).isSome]):=by
 refine aE.big (enters_of Jm) 0 rfl fun e=> ?_;rw[aL]at e;obtain⟨R,a⟩: ∃R,R=bM s d:=⟨_,rfl⟩
 rw[←a];refine aI (F:=AK) Jm (by simp[AK]) ?_;simp only[AK];refine aw trivial trivial ?_;refine aX.over s (fun k (_:Unit)=>[(6,iN k)]) (fun _ _=>[.cells iY]) (fun r _=>bM r d) R () e aA aA rfl a (fun k _ x hg g c f b=> ?_) (fun _ c b=> ?_)
 ·rw[bM]at b;clear a
  repeat' first|refine ak (fun _=> ?_) fun _=> ?_|refine bb (ga @c (ga @f (ga @hg (ga @ew @c9)))) trivial ?_|exact ba (ga @c (ga @f (ga @hg (ga @ew @c9)))) trivial|fail
  ·rename_i h;rw[b,if_pos h];rfl
  ·rename_i h;rw[if_neg h]at b;exact⟨(),b⟩
 ·repeat' first|refine ak (fun _=> ?_) fun _=> ?_|refine aD ?_|simp only[c,l9,ew,c9,aL,wy,qg,aC,reduceCtorEq,reduceIte,Nat.reduceAdd,Nat.reduceMul,Nat.reduceEqDiff,Nat.reduceLT,Nat.reduceLeDiff,Nat.reduceSub,ax,aB,ay,au]
  rw[b];rfl
theorem BE(s:aP)(h:s.length≤1000000000):aE Tryz.prog 51 [.sl 37 (s.map b8)] (.sl 32 ((bA s).map aq)):=by
 refine aI (F:=AO) Tp (by simp[AO]) ?_;simp only[AO];refine aw trivial trivial ?_;refine aX.overI s (fun k (b:List Dg)=>[(4,iN k),(3,.tsl 0 32 (b.map aq))]) (fun k b=>[.row 25 32 b.length]) (fun r b=>b++r.map (·.id)) (bA s) (fun k b=>b.length=k) [] a8 aA aA rfl rfl rfl (fun k b x hg g c f a d=> ?_) (fun b c a d=> ?_)
 ·have e:br (b.length+1) 32=true:=by simp only[br,decide_eq_true_eq];omega
  refine aw (ga @c (ga @f (ga @hg (ga @e (ga @eV @bc))))) trivial ?_;exact⟨b++[x.id],by simp,by simp,by simpa using a,by simp[d]⟩
 ·simp at a;refine aw @c trivial ?_;rw[a]
theorem qt(x:ar):aE Tryz.prog 123 [.agg (ab x)] (dB (!isZero x.p)):=by
 refine aI (F:=AY) Tv (by simp[AY]) ?_;simp only[AY]
 repeat' first|refine ak (fun _=> ?_) fun _=> ?_|refine bb trivial trivial ?_|exact ba trivial trivial|fail
 all_goals(simp_all[isZero,bS];try exact bQ)
theorem Kc(x:aJ):aE Tryz.prog 126 [.agg (aO x)] (dB (vc x)):=by
 refine aI (F:=AU) Tt (by simp[AU]) ?_;simp only[AU]
 repeat' first|refine ak (fun _=> ?_) fun _=> ?_|refine bb trivial trivial ?_|exact ba trivial trivial|fail
 all_goals(simp_all[vc,bS];try exact bQ)
theorem BG(x:ar)(d:Dg):aE Tryz.prog 129 [.agg (ab x),.agg (aq d)] (.agg (ab (whole x d))):=by
 refine aI (F:=AT) Ts (by simp[AT]) ?_;simp only[AT]
 repeat' first|refine ak (fun _=> ?_) fun _=> ?_|refine bb trivial trivial ?_|exact ba trivial trivial|fail
 all_goals(unfold whole isZero;first|(rw[if_pos (by simp_all)];done)|(rw[if_neg (by simp_all)];done))
end Go.Proofs.Q
namespace Go.Proofs.Q
open Go Go.Ab Go.Bb
def yP:CF:=⟨8, (.seq (fo [o0 4 (.box (.c (.agg [(.d (.sc (.string ⟨#[]⟩))),(.d (.sc (.string ⟨#[]⟩))),(.d (.sc (.int .i64 0)))])))]) (.seq (fo [om 5 0,om 6 1,o0 7 (.bld [(.d (.sc (.string ⟨#[]⟩))),(.d (.sc (.string ⟨#[]⟩))),(.d (.sc (.int .i64 0)))] [(0,1,(.t 5)),(2,1,(.t 6))]),o8 3 4 7]) .ret)),[.cell 4 (some 3)]⟩
theorem RI:aG Tryz.prog [300007] 25=some yP.erase:=by kernel_rfl
def yO:CF:=⟨130, (.seq (fo [o0 0 (.mov xF)]) (.seq (fo [o0 18 (.bld nO [(0,1,(xi 1)),(34,1,(xi 1))]),o6 19 36 [],o0 20 (.bld nO [(0,1,(xi 2)),(35,33,(.t 19)),(68,1,(.c (.d (.sc (.string ⟨#[102]⟩)))))]),o0 21 (.bsf 1 1 [(.d (.sc (.string ⟨#[]⟩)))] [(0,1,(.c (.d (.sc (.string ⟨#[120]⟩)))))]),o0 22 (.bld nO [(0,1,(xi 5)),(137,1,(.t 21))]),o0 23 (.bsf 139 3 M4 [(0,139,(.t 18)),(139,139,(.t 20)),(278,139,(.t 22))]),o0 24 (.bld l9 [(0,1,(.c (.d (.sc (.string ⟨#[97,110,110]⟩))))),(4,1,(.t 23))]),o6 25 19 [(.c (.nil 37)),.t 24],om 17 25,oe 26 17 0,oe 27 17 1,oe 28 17 2,o0 2 (.box (.c (.agg cN))),om 1 26,o8 32 2 27,om 3 28]) (.seq (fo [o2 29 32 2,o0 30 (.bld dW [(0,32,(.t 29))]),o0 4 (.box (.c (.agg dW))),o8 33 4 30]) (.seq (fo [om 32 1,o2 33 33 4,o2 34 32 2,o0 35 (.bld dW [(0,32,(.t 34)),(32,1,(xi 2))]),o2 36 33 4,o0 37 (.bsf 1 1 [(.d (.sc (.string ⟨#[]⟩)))] [(0,1,(.c (.d (.sc (.string ⟨#[121]⟩)))))]),o0 38 (.bld nO [(0,1,(xi 5)),(1,33,(.t 33)),(71,33,(.t 35)),(104,33,(.t 36)),(137,1,(.t 37))]),o0 39 (.bsf 139 1 nO [(0,139,(.t 38))]),o0 40 (.bld l9 [(0,1,(.c (.d (.sc (.string ⟨#[98,111,98]⟩))))),(4,1,(.t 39))]),o6 41 19 [.t 32,.t 40],om 31 41,oe 42 31 0,oe 43 31 1,oe 44 31 2,o0 5 (.box (.c (.agg cN))),om 1 42,o8 32 5 43,om 6 44]) (.seq (fo [om 46 1,o2 47 32 2,o6 48 12 [.t 46,.t 47],om 45 48,oe 49 45 0,oe 50 45 1,om 7 49,om 8 50])
 (.seq (fo [om 52 1,o2 53 32 2,o0 54 (.bsf 32 1 cN [(0,32,(.t 53))]),o6 55 14 [.t 52,.t 54],om 51 55,oe 56 51 0,oe 57 51 1,oe 58 51 2,om 9 56,om 10 57,om 11 58]) (.seq (.ops true [0,0,0,7,15,31,31,0,191,511] [om 60 1,o2 61 32 2,o0 62 (.call (.fn 25) [(.c (.d (.sc (.string ⟨#[99,105,100]⟩)))),(xi 3)]),o6 63 24 [.t 60,.t 61,.t 62],om 59 63,oe 64 59 0,oe 65 59 1,o0 12 (.box (.c (.agg iY))),o8 5 12 64,om 13 65])
 (.seq (.seq (fo [om 66 3,o5 67 .neq 66 0,om 68 67,oh 69 68 false 6,og 70 68 false (.bin .neq (.t 69) (xi 0)),o0 71 (.pick (.t 68) xT (.t 70)),om 72 71,oh 73 72 false 8,og 74 72 false (.bin .neq (.t 73) (xi 19)),o0 75 (.pick (.t 72) xT (.t 74)),om 76 75,oh 77 76 false 11,og 78 76 false (.bin .neq (.t 77) (xi 0)),o0 79 (.pick (.t 76) xT (.t 78)),om 80 79,oh 81 80 false 13,og 82 80 false (.bin .neq (.t 81) (xi 0)),o0 83 (.pick (.t 80) xT (.t 82)),om 84 83,oh 85 84 false 9,og 86 84 false (.len 0 (.t 85)),og 87 84 false (.bin .neq (.t 86) (xi 0)),o0 88 (.pick (.t 84) xT (.t 87)),om 89 88,oh 90 89 false 10,og 91 89 false (.len 0 (.t 90)),og 92 89 false (.bin .neq (.t 91) (xi 2)),o0 93 (.pick (.t 89) xT (.t 92)),om 94 93,og 95 94 false (.fad 4 (.t 12)),og 96 94 false (.ld none (.t 95)),og 97 94 false (.len 0 (.t 96)),og 98 94 false (.bin .neq (.t 97) (xi 1)),o0 99 (.pick (.t 94) xT (.t 98)),om 100 99,og 101 100 false (.fad 4 (.t 12)),og 102 100 false (.ld none (.t 101)),og 103 100 false (.iad 139 (.t 102) (xi 0)),og 104 100 false (.fad 138 (.t 103)),og 105 100 false (.ld none (.t 104)),og 106 100 false (.len 0 (.t 105)),og 107 100 false (.bin .neq (.t 106) (xi 5)),o0 108 (.pick (.t 100) xT (.t 107))]) (.cond (.t 108) (.seq (fo [o0 0 (.mov xF)]) .ret) .skip)) (.seq (fo [om 110 1,o2 111 5 12,o6 112 19 [.t 110,.t 111],om 109 112,oe 113 109 0,oe 114 109 1,oe 115 109 2,o0 15 (.box (.c (.agg cN))),om 14 113,o8 32 15 114,om 16 115])
 (.seq (fo [om 116 16,o5 117 .eql 116 0,om 118 117,oh 119 118 true 14,og 120 118 true (.ld (some 32) (.t 5)),og 121 118 true (.bld dW [(0,32,(.t 120))]),og 122 118 true (.call (.fn 34) [.t 119,.t 121]),o0 123 (.pick (.t 118) (.t 122) xF),om 124 123,oh 125 124 true 14,og 126 124 true (.ld (some 33) (.t 4)),og 127 124 true (.call (.fn 34) [.t 125,.t 126]),og 128 124 true (.not (.t 127)),o0 129 (.pick (.t 124) (.t 128) xF),om 0 129]) .ret)))))))))),[.tmp 0]⟩
theorem RH:aG Tryz.prog [300018,300020,100021,300022,100023,300024,300030,300035,100037,300038,100039,300040,100054,300121] 11=some yO.erase:=by kernel_rfl
end Go.Proofs.Q
