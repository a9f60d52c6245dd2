/- Lemmas. -/
import Derived.Test.YtellfinifjmloaaGreatDoorPAE
set_option linter.unusedVariables false
set_option linter.unusedSimpArgs false
namespace Go.Bb
open Go Go.Ab Go.Proofs.Lg
theorem ai{a b:Prop}(h:a)(k:b):a∧b:=⟨h,k⟩
def PF:=PLift.up (ai (ai (ai (ai (ai (ai (ai (ai @decide_true @PB) (ai @Py (ai @PA @Pv))) (ai (ai @Pu (ai @Px @Pw)) (ai @Pz (ai @Ps @PQ))))
 (ai (ai (ai @Pr (ai @ki.eq_1 @ki.eq_2)) (ai @ki.eq_3 (ai @qH.eq_1 @CI.sem.eq_1))) (ai (ai @CI.sem.eq_2 (ai @CI.sem.eq_3 @CI.sem.eq_4)) (ai @CI.sem.eq_5 (ai @CI.sem.eq_6
 @CI.sem.eq_7))))) (ai (ai (ai (ai @CI.sem.eq_8 (ai @CI.sem.eq_9 @CI.sem.eq_10)) (ai @CI.sem.eq_11 (ai @CI.sem.eq_12 @CI.sem.eq_13))) (ai (ai @CI.sem.eq_14 (ai @CI.sem.eq_15
 @CI.sem.eq_16)) (ai @CI.sem.eq_17 (ai @CI.sem.eq_18 @CI.sem.eq_19)))) (ai (ai (ai @CI.sem.eq_20 (ai @CI.sem.eq_21 @CI.sem.eq_22)) (ai @CI.sem.eq_23 (ai @CI.sem.eq_24
 @CI.sem.eq_25))) (ai (ai @CI.sem.eq_26 (ai @CI.sem.eq_27 @CI.sem.eq_28)) (ai @CI.sem.eq_29 (ai @CI.sem.eq_30 @CI.sem.eq_31)))))) (ai (ai (ai (ai (ai @CI.sem.eq_32 (ai @CI.sem.eq_33
 @CI.sem.eq_34)) (ai @CI.sem.eq_35 (ai @CI.sem.eq_36 @CI.sem.eq_37))) (ai (ai @CI.sem.eq_38 (ai @CI.sem.eq_39 @CI.sem.eq_40)) (ai @CI.sem.eq_41 (ai @CI.sem.eq_42 @CI.sem.eq_43))))
 (ai (ai (ai @CI.sem.eq_44 (ai @CI.sem.eq_45 @CI.touch.eq_1)) (ai @CI.touch.eq_2 (ai @CI.touch.eq_3 @CI.touch.eq_4))) (ai (ai @CI.touch.eq_5 (ai @CI.touch.eq_6 @CI.touch.eq_7)) (ai
 @CI.touch.eq_8 (ai @CI.touch.eq_9 @CI.touch.eq_10))))) (ai (ai (ai (ai @CI.touch.eq_11 (ai @CI.touch.eq_12 @CI.touch.eq_13)) (ai @CI.touch.eq_14 (ai @CI.touch.eq_15
 @CI.touch.eq_16))) (ai (ai @CI.touch.eq_17 (ai @CI.touch.eq_18 @CI.touch.eq_19)) (ai @CI.touch.eq_20 (ai @lV.eq_1 @lV.eq_2)))) (ai (ai (ai @lV.eq_3 (ai @CI.use.eq_1
 @CI.use.eq_2)) (ai @CI.use.eq_3 (ai @CI.use.eq_4 @CI.use.eq_5))) (ai (ai @CI.use.eq_6 (ai @CI.use.eq_7 @AV.vecId.eq_1)) (ai @AV.vecId.eq_2 (ai @AV.vecId.eq_3 @AV.hdl.eq_1))))))) (ai
 (ai (ai (ai (ai (ai @AV.hdl.eq_2 @AV.hdl.eq_3) (ai @AV.hdl.eq_4 (ai @AV.hdl.eq_5 @AV.hdl.eq_6))) (ai (ai @AV.hdl.eq_7 (ai @gb.eq_1 @X.ev.eq_1)) (ai @X.ev.eq_2 (ai @j4.eq_1
 @j4.eq_2)))) (ai (ai (ai @look.eq_1 (ai @look.eq_2 @dC.eq_1)) (ai @dC.eq_2 (ai @mC.eq_1 @tY.eq_1))) (ai (ai @ret.eq_1 (ai @AV.bool?.eq_1 @AV.bool?.eq_2)) (ai
 @AV.int?.eq_1 (ai @AV.int?.eq_2 @AV.num?.eq_1))))) (ai (ai (ai (ai @AV.num?.eq_2 (ai @AV.str?.eq_1 @AV.str?.eq_2)) (ai @AV.sc?.eq_1 (ai @AV.sc?.eq_2 @jR.eq_1))) (ai (ai @jR.eq_2
 (ai @jR.eq_3 @slA.eq_1)) (ai @slA.eq_2 (ai @slA.eq_3 @slA.eq_4)))) (ai (ai (ai @slA.eq_5 (ai @oT.eq_1 @oT.eq_2)) (ai @oU.eq_1 (ai @oU.eq_2 @cU.eq_1))) (ai (ai
 @cU.eq_2 (ai @cU.eq_3 @cU.eq_4)) (ai @cU.eq_5 (ai @cU.eq_6 @cU.eq_7)))))) (ai (ai (ai (ai (ai @cU.eq_8 (ai @cU.eq_9 @cU.eq_10)) (ai @cU.eq_11 (ai @cU.eq_12
 @cU.eq_13))) (ai (ai @cU.eq_14 (ai @cU.eq_15 @cU.eq_16)) (ai @cU.eq_17 (ai @cU.eq_18 @cU.eq_19)))) (ai (ai (ai @cU.eq_20 (ai @cU.eq_21 @cU.eq_22)) (ai
 @cU.eq_23 (ai @cU.eq_24 @cU.eq_25))) (ai (ai @kh.eq_1 (ai @kh.eq_2 @jQ.eq_1)) (ai @jQ.eq_2 (ai @jQ.eq_3 @jQ.eq_4))))) (ai (ai (ai (ai @mr.eq_1 (ai @mr.eq_2
 @mr.eq_3)) (ai @mr.eq_4 (ai @pC.eq_1 @pC.eq_2))) (ai (ai @pC.eq_3 (ai @pC.eq_4 @rJ.eq_1)) (ai @rJ.eq_2 (ai @rJ.eq_3 @fu.eq_1)))) (ai (ai (ai
 @fu.eq_2 (ai @fu.eq_3 @fu.eq_4)) (ai @fu.eq_5 (ai @fu.eq_6 @fu.eq_7))) (ai (ai @fu.eq_8 (ai @fu.eq_9 @fu.eq_10)) (ai @fu.eq_11 (ai @mw.eq_1
 @mw.eq_2)))))))) (ai (ai (ai (ai (ai (ai (ai @mw.eq_3 @mw.eq_4) (ai @mw.eq_5 (ai @pD.eq_1 @pD.eq_2))) (ai (ai @pD.eq_3 (ai @pD.eq_4 @qo.eq_1)) (ai
 @qo.eq_2 (ai @qo.eq_3 @nk.eq_1)))) (ai (ai (ai @pz.eq_1 (ai @pz.eq_2 @vv.eq_1)) (ai @vv.eq_2 (ai @mY.eq_1 @mY.eq_2))) (ai (ai @gx.eq_1 (ai @gx.eq_2
 @qh.eq_1)) (ai @qh.eq_2 (ai @rl.eq_1 @rl.eq_2))))) (ai (ai (ai (ai @lY.eq_1 (ai @lY.eq_2 @qN.eq_1)) (ai @vd.eq_1 (ai @gQ.eq_1 @gQ.eq_2))) (ai (ai @gQ.eq_3 (ai
 @gQ.eq_4 @putCells.eq_1)) (ai @xR.eq_1 (ai @oB.eq_1 @oB.eq_2)))) (ai (ai (ai @oB.eq_3 (ai @iL.eq_1 @iL.eq_2)) (ai @iL.eq_3 (ai @iL.eq_4
 @iL.eq_5))) (ai (ai @iL.eq_6 (ai @ym.eq_1 @yn.eq_1)) (ai @oA.eq_1 (ai @oA.eq_2 @ir.eq_1)))))) (ai (ai (ai (ai (ai @ir.eq_2 (ai @oC.eq_1 @oC.eq_2))
 (ai @oX.eq_1 (ai @oX.eq_2 @ny.eq_1))) (ai (ai @ny.eq_2 (ai @fO.eq_1 @fO.eq_2)) (ai @lM.eq_1 (ai @lM.eq_2 @nM.eq_1)))) (ai (ai (ai @nM.eq_2 (ai
 @nM.eq_3 @vJ.eq_1)) (ai @qq.eq_1 (ai @qq.eq_2 @tP.eq_1))) (ai (ai @tP.eq_2 (ai @yz.eq_1 @yz.eq_2)) (ai @bA.eq_1 (ai @bA.eq_2 @bA.eq_3))))) (ai (ai
 (ai (ai @bA.eq_4 (ai @bA.eq_5 @bA.eq_6)) (ai @bA.eq_7 (ai @bA.eq_8 @dA.eq_1))) (ai (ai @dA.eq_2 (ai @chunk.eq_1 @chunk.eq_2)) (ai @AV.toD.eq_1 (ai @AV.toD.eq_2
 @AV.toL.eq_1)))) (ai (ai (ai @AV.toL.eq_2 (ai @AV.toL.eq_3 @AV.toL.eq_4)) (ai @AV.toL.eq_5 (ai @toLs.eq_1 @toLs.eq_2))) (ai (ai @AV.cells.eq_1 (ai @AV.cells.eq_2 @AV.cells.eq_3))
 (ai @AV.row.eq_1 (ai @AV.row.eq_2 @AV.row.eq_3))))))) (ai (ai (ai (ai (ai (ai @AV.leaf.eq_1 (ai @AV.leaf.eq_2 @AV.leaf.eq_3)) (ai @AV.leaf.eq_4 (ai @D.leaf.eq_1 @D.leaf.eq_2))) (ai
 (ai @D.leaf.eq_3 (ai @D.leaf.eq_4 @D.leaf.eq_5)) (ai @Go.Value.oneCell'.eq_1 (ai @Go.Value.oneCell'.eq_2 @Go.Value.oneCell'.eq_3)))) (ai (ai (ai @mW.eq_1 (ai @mW.eq_2
 @bV.{0,0})) (ai @e8.{0,0} (ai @eZ.{0,0} @pT.{0,0}))) (ai (ai @dP.{0,0} (ai @Option.bind_none.{0,0}
 @ek.{0})) (ai @mS.{0} (ai @pS.{0} @nK.{0}))))) (ai (ai (ai (ai @false_implies (ai @true_implies @and_true)) (ai @true_and
 (ai @and_self @if_true.{1}))) (ai (ai @if_false.{1} (ai @List.set_cons_zero.{0} @List.set_cons_succ.{0})) (ai @aY.{0} (ai @b6.{0}
 @wk.{0})))) (ai (ai (ai @List.reverse_nil.{0} (ai @bm.{0} @mO.{0})) (ai @jj.{0} (ai @uj.{0}
 @List.drop_succ_cons.{0}))) (ai (ai @jY.{0} (ai @ID @IC)) (ai @Bool.not_true (ai @Bool.not_false @s5)))))) (ai (ai (ai (ai (ai @Bool.and_true (ai
 @Bool.false_and @Bool.and_false)) (ai @Bool.not_not (ai @Bool.false_bne @Bool.true_bne))) (ai (ai @aQ.{0,0} (ai @fC @Int.natCast_nonneg)) (ai
 @dL.{0,0} (ai @eq_self.{1} @lU.eq_1)))) (ai (ai (ai @lU.eq_2 (ai @List.getElem?_cons_zero.{0} @List.getElem?_cons_succ.{0})) (ai @aR.{0} (ai
 @Option.some.injEq.{0} @D.sc.injEq))) (ai (ai @Go.Value.bool.injEq (ai @AV.d.injEq @Go.Value.int.injEq)) (ai @D.sl.injEq (ai @exists_eq_left'.{1} @exists_eq_left.{1}))))) (ai (ai
 (ai (ai @Bool.false_or (ai @Bool.true_or @Option.isNone_some.{0})) (ai @Option.isNone_none.{0} (ai @CI.mark.eq_1 @CI.wr.eq_1))) (ai (ai @CI.wr.eq_2 (ai @CI.wr.eq_3 @CI.wr.eq_4)) (ai
 @CI.wr.eq_5 (ai @CI.wr.eq_6 @CI.wr.eq_7)))) (ai (ai (ai @AV.rowId.eq_1 (ai @AV.rowId.eq_2 @AV.rowId.eq_3)) (ai @AV.rowId.eq_4 (ai @rm.eq_1 @o0.eq_1))) (ai (ai @om.eq_1 (ai
 @og.eq_1 @oh.eq_1)) (ai @oN.eq_1 (ai @xi.eq_1 @fo.eq_1)))))))))
theorem wx:type_of% PF.down:=PF.down
def Pq:=PLift.up (ai (ai (ai @SZ @T0) (ai @a3b @a3c)) (ai (ai @bj.{0} @a4N) (ai @lO (ai @sd.{0} @aw))))
theorem wj:type_of% Pq.down:=Pq.down
end Go.Bb
namespace Go.Bb
open Go Go.RowKit Go.Ab Go.Proofs.Lg
theorem bE{n:Int}{m:Nat}(h:n=m)(hm:m<9223372036854775808):Go.IntKind.i64.wrap n=(m:Int):=by
 subst h;simp only[Go.IntKind.wrap,Go.IntKind.bits,Go.IntKind.signed];have:((m:Int) % 2^64)=m:=by omega
 simp only[this];simp;omega
def dv(P:Program)(l:List CO)(K:Fr→List aa→List Nat→Prop)(a:List Nat)(fr:Fr)(dst:Option Nat)(m:Nat)(b:List aa)(d:AV):Prop:=bK P l K (m::a) (dC fr dst d) b
def wz(P:Program)(l:List CO)(K:Fr→List aa→List Nat→Prop)(a:List Nat)(fr:Fr)(dst:Option Nat)(m:Nat):Option (AV×List aa)→Prop
 |some (d,s')=>dv P l K a fr dst m s' d
 |none=>False
def w7(P:Program)(l:List CO)(K:Fr→List aa→List Nat→Prop)(a:List Nat)(fr:Fr)(dst:Option Nat)(s:List aa):Option AV→Option (List AV)→Prop
 |some cv,some vs=>aq P cv vs s (s6 P l K a fr dst)
 |_,_=>False
def gR(P:Program)(ci:CI)(dst:Option Nat)(l:List CO)(K:Fr→List aa→List Nat→Prop)(a:List Nat)(fr:Fr)(s:List aa):Prop:=match ci with
 | .call c xs=>w7 P l K a fr dst s (oX fr c) (j4 fr xs)
 |ci=>wz P l K a fr dst (ci.mark fr) (ci.sem fr s)
def nG(P:Program)(ci:CI)(dst:Option Nat)(l:List CO)(K:Fr→List aa→List Nat→Prop)(a:List Nat)(fr:Fr)(s:List aa):Option Bool→Prop
 |some b=>mK b (dv P l K a fr dst 0 s mC) (gR P ci dst l K a fr s)
 |none=>False
def nE(P:Program)(c:Option Nat)(a b:CC)(Q:Exit→Fr→List aa→Prop)(fr:Fr)(s:List aa):Option Bool→Prop
 |some v=>mK v (cF P c b Q fr s) (cF P c a Q fr s)
 |none=>False
section
variable {P:Program} {rd:Option Nat} {Q:Exit→Fr→List aa→Prop} {l:List CO} {K:Fr→List aa→List Nat→Prop} {acc:List Nat} {fr fr':Fr} {s s':List aa} {dst:Option Nat} {ci:CI} {m:Nat} {c:CC}
@[congr] theorem a4Y {o o':Option (AV×List aa)} (h:o=o'):wz P l K acc fr dst m o=wz P l K acc fr dst m o':=by rw[h]
@[congr] theorem a4X {d a:AV} (h:d=a):dv P l K acc fr dst m s d=dv P l K acc fr dst m s a:=by rw[h]
@[congr] theorem a4O {o o':Option AV} {u a:Option (List AV)} (h:o=o') (b:u=a):w7 P l K acc fr dst s o u=w7 P l K acc fr dst s o' a:=by rw[h,b]
@[congr] theorem a4T {o o':Option Bool} (h:o=o'):nG P ci dst l K acc fr s o=nG P ci dst l K acc fr s o':=by rw[h]
@[congr] theorem a4S {a b:CC} {o o':Option Bool} (h:o=o'):nE P rd a b Q fr s o=nE P rd a b Q fr s o':=by rw[h]
@[congr] theorem a4U (h:s=s'):gR P ci dst l K acc fr s=gR P ci dst l K acc fr s':=by rw[h]
@[congr] theorem a47 (h:s=s'):bK P l K acc fr s=bK P l K acc fr s':=by rw[h]
@[congr] theorem a48 (a:fr=fr') (h:s=s'):cF P rd c Q fr s=cF P rd c Q fr' s':=by rw[a,h]
@[congr] theorem a4V (h:s=s'):aZ P rd c Q fr s=aZ P rd c Q fr s':=by rw[h]
@[congr] theorem a4Q {a:AV} {vs:List AV} {k:AV→List aa→Nat→Prop} (h:s=s'):aq P a vs s k=aq P a vs s' k:=by rw[h]
@[congr] theorem a4R {d a:AV} {b:Nat} (h:s=s') (c:d=a):s6 P l K acc fr dst d s b=s6 P l K acc fr dst a s' b:=by rw[h,c]
end
section
variable (P:Program) (rd:Option Nat) (Q:Exit→Fr→List aa→Prop) (l:List CO) (K:Fr→List aa→List Nat→Prop) (acc:List Nat) (fr:Fr) (s s':List aa) (dst:Option Nat) (ci:CI) (m:Nat) (t:Nat)
theorem yH(g:Option (Option Nat×Bool)):bK P (⟨dst,g,ci⟩::l) K acc fr s=nG P ci dst l K acc fr s (ki fr g):=by
 rw[Pr];cases h:ki fr g with
 |none=>simp only[h,nG]
 |some b=>
  simp only[h,nG,gR,dv];refine congrArg _ ?_;cases ci with
  |call c xs=>cases d:oX fr c<;>cases e:j4 fr xs<;>rfl
  |_=>first|rfl|(split<;>rename_i a<;>rw[a]<;>rfl)
theorem yT:nG P ci dst l K acc fr s (some true)=gR P ci dst l K acc fr s:=by simp only[nG,HU]
theorem PZ:nG P ci dst l K acc fr s (some false)=dv P l K acc fr dst 0 s mC:=by simp only[nG,HT]
theorem nA(d:Nat):bK P (o0 d ci::l) K acc fr s=gR P ci (some d) l K acc fr s:=by unfold o0;rw[yH];exact yT ..
theorem Pt:bK P (oN ci::l) K acc fr s=gR P ci none l K acc fr s:=by unfold oN;rw[yH];exact yT ..
theorem a4e(d:Nat):bK P (om d t::l) K acc fr s=gR P (.mov (.t t)) (some d) l K acc fr s:=by unfold om;rw[yH];exact yT ..
def o1(d n t:Nat):CO:=o0 d (.fad n (.t t))
theorem a3V(d n t:Nat):bK P (o1 d n t::l) K acc fr s=gR P (.fad n (.t t)) (some d) l K acc fr s:=nA ..
def o2(d n t:Nat):CO:=o0 d (.ld (some n) (.t t))
theorem a3W(d n t:Nat):bK P (o2 d n t::l) K acc fr s=gR P (.ld (some n) (.t t)) (some d) l K acc fr s:=nA ..
def o3(d t:Nat):CO:=o0 d (.ld none (.t t))
theorem a3X(d t:Nat):bK P (o3 d t::l) K acc fr s=gR P (.ld none (.t t)) (some d) l K acc fr s:=nA ..
def o4(d:Nat)(o:BinOp)(a b:Nat):CO:=o0 d (.bin o (.t a) (.t b))
theorem a3Y(d:Nat)(o:BinOp)(a b:Nat):bK P (o4 d o a b::l) K acc fr s=gR P (.bin o (.t a) (.t b)) (some d) l K acc fr s:=nA ..
def o5(d:Nat)(o:BinOp)(a:Nat)(n:Int):CO:=o0 d (.bin o (.t a) (xi n))
theorem a3Z(d:Nat)(o:BinOp)(a:Nat)(n:Int):bK P (o5 d o a n::l) K acc fr s=gR P (.bin o (.t a) (xi n)) (some d) l K acc fr s:=nA ..
def o6(d f:Nat)(a:List X):CO:=o0 d (.call (.fn f) a)
theorem a30(d f:Nat)(a:List X):bK P (o6 d f a::l) K acc fr s=gR P (.call (.fn f) a) (some d) l K acc fr s:=nA ..
def o7(d:Nat)(n:Int):CO:=o0 d (.mov (xi n))
theorem a34(d:Nat)(n:Int):bK P (o7 d n::l) K acc fr s=gR P (.mov (xi n)) (some d) l K acc fr s:=nA ..
def o9(d n t:Nat):CO:=o0 d (.len n (.t t))
theorem a38(d n t:Nat):bK P (o9 d n t::l) K acc fr s=gR P (.len n (.t t)) (some d) l K acc fr s:=nA ..
def oi(d n a b:Nat):CO:=o0 d (.iad n (.t a) (.t b))
theorem a4d(d n a b:Nat):bK P (oi d n a b::l) K acc fr s=gR P (.iad n (.t a) (.t b)) (some d) l K acc fr s:=nA ..
def oe(d t n:Nat):CO:=o0 d (.ext (.t t) n)
theorem a4a(d t n:Nat):bK P (oe d t n::l) K acc fr s=gR P (.ext (.t t) n) (some d) l K acc fr s:=nA ..
def ox(d t:Nat):CO:=o0 d (.bxf (.t t))
theorem a4f(d t:Nat):bK P (ox d t::l) K acc fr s=gR P (.bxf (.t t)) (some d) l K acc fr s:=nA ..
def o8(n a b:Nat):CO:=oN (.st n (.t a) (.t b))
theorem a36(n a b:Nat):bK P (o8 n a b::l) K acc fr s=gR P (.st n (.t a) (.t b)) none l K acc fr s:=Pt ..
theorem a4b(d:Nat)(b:Bool):bK P (og d t b ci::l) K acc fr s=nG P ci (some d) l K acc fr s (ki fr (some (some t,b))):=by unfold og;rw[yH]
theorem a4c(d n:Nat)(b:Bool):bK P (oh d t b n::l) K acc fr s=nG P (.mov (.t n)) (some d) l K acc fr s (ki fr (some (some t,b))):=by unfold oh;rw[yH]
theorem Q2:gR P ci dst l K acc fr s=match ci with
 | .call c xs=>w7 P l K acc fr dst s (oX fr c) (j4 fr xs)
 |ci=>wz P l K acc fr dst (ci.mark fr) (ci.sem fr s):=propext dp
theorem QE(d:AV):wz P l K acc fr dst m (some (d,s'))=dv P l K acc fr dst m s' d:=propext dp
theorem PO(c:AV)(vs:List AV):w7 P l K acc fr dst s (some c) (some vs)=aq P c vs s (s6 P l K acc fr dst):=propext dp
theorem a4g(c:X)(a b:CC):cF P rd (.cond c a b) Q fr s=nE P rd a b Q fr s ((c.ev fr).bind AV.bool?):=by
 rw[Pv];cases h:(c.ev fr).bind AV.bool? <;>simp only[h,nE]
theorem PX(a b:CC):nE P rd a b Q fr s (some true)=cF P rd a Q fr s:=by simp only[nE,HU]
theorem PW(a b:CC):nE P rd a b Q fr s (some false)=cF P rd b Q fr s:=by simp only[nE,HT]
theorem Qh(d:AV):dv P l K acc fr none m s d=bK P l K (m::acc) fr s:=propext dp
theorem Q9(d:AV):dv P l K acc fr (some t) m s d=bK P l K (m::acc) ((t,d)::fr) s:=propext dp
theorem Q6:dv P l K acc fr (some t) m s (.d (.sc (.bool true)))=bK P l K (m::acc) ((t,.d (.sc (.bool true)))::fr) s:=propext dp
theorem Q5:dv P l K acc fr (some t) m s (.d (.sc (.bool false)))=bK P l K (m::acc) ((t,.d (.sc (.bool false)))::fr) s:=propext dp
theorem Qc(k:IntKind)(n:Int):dv P l K acc fr (some t) m s (.d (.sc (.int k n)))=bK P l K (m::acc) ((t,.d (.sc (.int k n)))::fr) s:=propext dp
theorem Qk(b:ByteArray):dv P l K acc fr (some t) m s (.d (.sc (.string b)))=bK P l K (m::acc) ((t,.d (.sc (.string b)))::fr) s:=propext dp
theorem Qm(b:Array Value):dv P l K acc fr (some t) m s (.d (.sc (.tuple b)))=bK P l K (m::acc) ((t,.d (.sc (.tuple b)))::fr) s:=propext dp
theorem Qd(b:Option Nat):dv P l K acc fr (some t) m s (.d (.sc (.map b)))=bK P l K (m::acc) ((t,.d (.sc (.map b)))::fr) s:=propext dp
theorem Q7(cs:List D):dv P l K acc fr (some t) m s (.d (.agg cs))=bK P l K (m::acc) ((t,.d (.agg cs))::fr) s:=propext dp
theorem Ql(n:Nat)(cs:List (List D)):dv P l K acc fr (some t) m s (.d (.sl n cs))=bK P l K (m::acc) ((t,.d (.sl n cs))::fr) s:=propext dp
theorem Qj(cs:List D):dv P l K acc fr (some t) m s (.d (.ref cs))=bK P l K (m::acc) ((t,.d (.ref cs))::fr) s:=propext dp
theorem Qo(cs:List D):dv P l K acc fr (some t) m s (.d (.tup cs))=bK P l K (m::acc) ((t,.d (.tup cs))::fr) s:=propext dp
theorem Qn(id sz:Nat)(rows:List (List D)):dv P l K acc fr (some t) m s (.tsl id sz rows)=bK P l K (m::acc) ((t,.tsl id sz rows)::fr) s:=propext dp
theorem Qg(sz:Nat):dv P l K acc fr (some t) m s (.nil sz)=bK P l K (m::acc) ((t,.nil sz)::fr) s:=propext dp
theorem Qb(sz:Nat):dv P l K acc fr (some t) m s (.emp sz)=bK P l K (m::acc) ((t,.emp sz)::fr) s:=propext dp
theorem Qi(a b:Nat):dv P l K acc fr (some t) m s (.ptr a b)=bK P l K (m::acc) ((t,.ptr a b)::fr) s:=propext dp
theorem Qq(a b c:Nat):dv P l K acc fr (some t) m s (.vec a b c)=bK P l K (m::acc) ((t,.vec a b c)::fr) s:=propext dp
theorem Qr(a b c:Nat):dv P l K acc fr (some t) m s (.vptr a b c)=bK P l K (m::acc) ((t,.vptr a b c)::fr) s:=propext dp
theorem Qt(a b c e:Nat):dv P l K acc fr (some t) m s (.win a b c e)=bK P l K (m::acc) ((t,.win a b c e)::fr) s:=propext dp
theorem Qs(a b c e f:Nat):dv P l K acc fr (some t) m s (.vwn a b c e f)=bK P l K (m::acc) ((t,.vwn a b c e f)::fr) s:=propext dp
theorem Qe(a:Nat):dv P l K acc fr (some t) m s (.mp a)=bK P l K (m::acc) ((t,.mp a)::fr) s:=propext dp
theorem Qu(a:Nat):dv P l K acc fr (some t) m s (.yld a)=bK P l K (m::acc) ((t,.yld a)::fr) s:=propext dp
theorem Qa(f:FuncId)(a b:List AV):dv P l K acc fr (some t) m s (.clo f a b)=bK P l K (m::acc) ((t,.clo f a b)::fr) s:=propext dp
theorem Q8(a:List AV):dv P l K acc fr (some t) m s (.agg a)=bK P l K (m::acc) ((t,.agg a)::fr) s:=propext dp
theorem Qp(a:List AV):dv P l K acc fr (some t) m s (.tup a)=bK P l K (m::acc) ((t,.tup a)::fr) s:=propext dp
theorem PR(d:AV)(a:Nat):s6 P l K acc fr dst d s a=dv P l K acc fr dst a s d:=propext dp
end
theorem Q3(a:List Nat)(Q:Exit→Fr→List aa→Prop)(fr:Fr)(s:List aa)(b:List Nat):qH false a Q fr s b=Q .normal fr s:=propext ⟨fun h=>h.2,fun h=>⟨fun e=>(nomatch e),h⟩⟩
theorem yY{a:List Nat}{Q:Exit→Fr→List aa→Prop}{fr:Fr}{s:List aa}{b:List Nat}(h:tI a b=true)(k:Q .normal fr s):qH true a Q fr s b:=⟨fun _=>h,k⟩
@[congr] theorem a4W {b:Bool} {a:List Nat} {Q:Exit→Fr→List aa→Prop} {fr:Fr} {s d:List aa} {c:List Nat} (h:s=d):qH b a Q fr s c=qH b a Q fr d c:=by rw[h]
theorem natLit(n:Nat):((no_index (OfNat.ofNat n):Nat):Int)=OfNat.ofNat n:=rfl
theorem dv.both{P:Program}{l:List CO}{K:Fr→List aa→List Nat→Prop}{a:List Nat}{fr:Fr}{t m:Nat}{s:List aa}{v:Bool}(c:v=true→bK P l K (m::a) ((t,.d (.sc (.bool true)))::fr) s)(b:v=false→bK P l K (m::a) ((t,.d (.sc (.bool false)))::fr) s):dv P l K a fr (some t) m s (.d (.sc (.bool v))):=by
 cases v with
 |true=>exact c rfl
 |false=>exact b rfl
theorem dv.dec{P:Program}{l:List CO}{K:Fr→List aa→List Nat→Prop}{a:List Nat}{fr:Fr}{t m:Nat}{s:List aa}{p:Prop}[Decidable p](c:p→bK P l K (m::a) ((t,.d (.sc (.bool true)))::fr) s)(b: ¬p→bK P l K (m::a) ((t,.d (.sc (.bool false)))::fr) s):dv P l K a fr (some t) m s (.d (.sc (.bool (decide p)))):=by
 by_cases h:p
 ·rw[decide_eq_true h];exact c h
 ·rw[decide_eq_false h];exact b h
theorem dv.ndec{P:Program}{l:List CO}{K:Fr→List aa→List Nat→Prop}{a:List Nat}{fr:Fr}{t m:Nat}{s:List aa}{p:Prop}[Decidable p](c: ¬p→bK P l K (m::a) ((t,.d (.sc (.bool true)))::fr) s)(b:p→bK P l K (m::a) ((t,.d (.sc (.bool false)))::fr) s):dv P l K a fr (some t) m s (.d (.sc (.bool (!decide p)))):=by
 by_cases h:p
 ·rw[decide_eq_true h];exact b h
 ·rw[decide_eq_false h];exact c h
theorem nE.both{P:Program}{c:Option Nat}{a b:CC}{Q:Exit→Fr→List aa→Prop}{fr:Fr}{s:List aa}{v:Bool}(e:v=true→cF P c a Q fr s)(d:v=false→cF P c b Q fr s):nE P c a b Q fr s (some v):=⟨d,e⟩
theorem a4h(P:Program)(a:Option Nat)(keep:List Nat)(c:CC)(Q:Exit→Fr→List aa→Prop)(fr:Fr)(s:List aa):cF P a (.trim keep c) Q fr s=cF P a c Q (dY keep fr) s:=propext dp
def xT:X:= .c (.d (.sc (.bool true)))
def xF:X:= .c (.d (.sc (.bool false)))
theorem a2J(fr:Fr):dY [] fr=[]:=rfl
theorem yh(t:Nat)(l:List Nat)(fr:Fr):dY (t::l) fr=match look fr t with
  |some x=>(t,x)::dY l fr
  |none=>dY l fr:=by
 unfold dY;rw[List.filterMap_cons];cases look fr t<;>rfl
theorem Dt: ∀(keep:List Nat) (fr:Fr) (t:Nat),t∈keep→look (dY keep fr) t=look fr t
 |[],_,_,h=>by cases h
 |u::l,fr,t,h=>by
  rw[yh];by_cases e:u=t
  ·subst e;cases a:look fr u with
   |some x=>simp[look]
   |none=>
    by_cases hm:u∈l
    ·rw[Dt l fr u hm,a]
    ·simp only[];cases hk:look (dY l fr) u with
     |none=>rfl
     |some y=>have:=E7 l fr u y hk;rw[a]at this;cases this
  ·have hm:t∈l:=by cases h with
    |head=>exact absurd rfl e
    |tail _ h=>exact h
   cases a:look fr u with
   |some x=>simp only[look,if_neg e];exact Dt l fr t hm
   |none=>exact Dt l fr t hm
theorem Oe: ∀{keep:List Nat} {fr fr':Fr},(∀t∈keep,look fr t=look fr' t)→dY keep fr=dY keep fr'
 |[],_,_,_=>rfl
 |t::l,fr,fr',h=>by
  rw[yh,yh,h t (by simp),Oe (fun u a=>h u (by simp[a]))]
theorem Of(keep:List Nat)(fr:Fr):dY keep (dY keep fr)=dY keep fr:=Oe fun t h=>Dt keep fr t h
def iQ:List Nat→Fr→Fr→Prop
 |[],_,_=>True
 |t::l,fr,fr'=>SameO (look fr t) (look fr' t)∧iQ l fr fr'
where SameO:Option AV→Option AV→Prop
 |some x,o=>o=some x
 |none,_=>True
theorem iQ.sub: ∀{keep:List Nat} {fr fr':Fr},iQ keep fr fr'→Sub (dY keep fr) fr'
 |[],_,fr',_=>Sub.nil fr'
 |t::l,fr,fr',h=>by
  obtain⟨a,b⟩:=h;rw[yh];cases c:look fr t with
  |none=>exact b.sub
  |some x=>rw[c]at a;exact Sub.cons a b.sub
theorem Sub.trans{a b c:Fr}(h:Sub a b)(k:Sub b c):Sub a c:=fun t x d=>k t x (h t x d)
theorem aZ.tr{P:Program}{f:Option Nat}{keep:List Nat}{c:CC}{Q:Exit→Fr→List aa→Prop}{fr fr0:Fr}{s:List aa}{β:Type}(F:β→Fr)(S:β→List aa)(I:Nat→β→Prop)(m:Nat)(b:β)(r:dY keep fr=fr0)(j:iQ keep (F b++fr0) fr0)(q:s=S b)(p:I m b)
  (h: ∀m b,I m b→cF P f c (fO (fun fr' i=> ∃d a,d<m∧iQ keep (F a++fr0) fr'∧i=S a∧I d a) Q) (dY keep (F b++fr0)) (S b)):aZ P f (.trim keep c) Q fr s:=by
 refine aZ.intro (fun m fr s=> ∃b,fr=dY keep (F b++fr0)∧s=S b∧I m b) m (dY keep (F b++fr0)) (j.sub.trans (by rw[←r];exact E7 keep fr)) ⟨b,rfl,q,p⟩ ?_;rintro m _ _ ⟨b,rfl,rfl,hi⟩;show cF P f c _ (dY keep (dY keep (F b++fr0))) (S b);rw[Of];refine mG (h m b hi) fun e fr' i g=> ?_;cases e with
 |normal=>obtain⟨d,a,k,l,n,o⟩:=g;exact⟨d,_,k,l.sub,a,rfl,n,o⟩
 |_=>exact g
theorem aZ.over{P:Program}{i:Option Nat}{keep:List Nat}{c:CC}{Q:Exit→Fr→List aa→Prop}{fr fr0:Fr}{s:List aa}{α β γ:Type}(l:List α)(F:Nat→β→Fr)(S:Nat→β→List aa)(g:List α→β→γ)(R:γ)(b:β)(v:l.length≤9223372036854775807)
  (u:dY keep fr=fr0) (n:iQ keep (F 0 b++fr0) fr0) (t:s=S 0 b) (r:R=g l b)
  (h: ∀k b y,l[k]?=some y→k<l.length→decide ((k:Int)<(l.length:Int))=true→IntKind.i64.wrap ((k:Int)+1)=((k+1:Nat):Int)→R=g (y::l.drop (k+1)) b→
   cF P i c (fO (fun fr' j=> ∃d,iQ keep (F (k+1) d++fr0) fr'∧j=S (k+1) d∧R=g (l.drop (k+1)) d) Q) (dY keep (F k b++fr0)) (S k b))
  (a: ∀b,decide ((l.length:Int)<(l.length:Int))=false→R=g [] b→cF P i c (fO (fun _ _=>False) Q) (dY keep (F l.length b++fr0)) (S l.length b)):aZ P i (.trim keep c) Q fr s:=by
 refine aZ.tr (fun b:Nat×β=>F b.1 b.2) (fun b=>S b.1 b.2) (fun m b=>m+b.1=l.length∧R=g (l.drop b.1) b.2) l.length (0,b) u n t ⟨rfl,r⟩ ?_;rintro m ⟨k,b⟩ ⟨hm,hi⟩;dsimp only at hm hi⊢;by_cases hk:k<l.length
 ·have hg:l[k]?=some l[k]:=bN hk;rw[kT hk]at hi;refine mG (h k b _ hg hk (by simpa using hk) (bE a8 a8) hi) fun e fr' j f=> ?_;cases e with
  |normal=>obtain⟨d,o,p,q⟩:=f;exact⟨m-1,(k+1,d),by omega,o,p,by dsimp only;omega,q⟩
  |_=>exact f
 ·obtain rfl:k=l.length:=by omega
  rw[wc]at hi;refine mG (a b (by simp) hi) fun e fr' j f=> ?_;cases e with
  |normal=>exact f.elim
  |_=>exact f
def b8(cs:List AV)(off m:Nat)(vs:List AV):Option (List AV):=if vs.length=m∧off+m≤cs.length then some (cs.take off++vs++cs.drop (off+m))else none
theorem ZJ(s:List aa)(id off m:Nat)(vs cs:List AV):putCells s id off m vs cs=(b8 cs off m vs).map fun a=>(tY,s.set id (.cells a)):=by
 unfold putCells b8;split<;>rfl
theorem SB(fr:Fr)(cs:List AV)(off size:Nat)(x:X)(ps:List (Nat×Nat×X)):kh fr cs ((off,size,x)::ps)=((x.ev fr).bind AV.cells).bind fun vs=>(b8 cs off size vs).bind fun a=>kh fr a ps:=by
 show(((x.ev fr).bind AV.cells).bind fun vs=>if vs.length=size∧off+size≤cs.length then kh fr (cs.take off++vs++cs.drop (off+size)) ps else none)=_;congr 1;funext vs;unfold b8;split<;>rfl
theorem gN{l:List AV}{n:Nat}{vs:List AV}(h:l.length=n)(a:vs.length=n):b8 l 0 n vs=some vs:=by
 unfold b8;rw[if_pos ⟨a,by omega⟩,aw,uj,bm,gC a8,bg]
theorem gu{α:Type}{l A C:List α}{b:α}{o:Nat}(h:l=A++([b]++C))(a:A.length=o):l[o]?=some b:=by subst h;subst a;simp
theorem pw{α:Type}{l A B C:List α}{o m:Nat}(h:l=A++(B++C))(a:A.length=o)(b:B.length=m):(l.drop o).take m=B:=by subst h;subst a;subst b;simp
theorem G8{α:Type}{l A B C:List α}{m:Nat}(h:l=A++(B++C))(a:A.length=0)(b:B.length=m):l.take m=B:=by
 have:=pw h a b;simpa using this
theorem lF{α:Type}{l A B C:List α}{o m i:Nat}{b:α}{j:Nat}(h:l=A++(B++C))(a:A.length=o)(d:B.length=m)(c:j=o+i)(hb:B[i]?=some b):l[j]?=some b:=by
 subst h;subst a;subst c;have:=(b9.1 hb).1;rw[iO a8,mR,fM this];exact hb
theorem a3C{α:Type}{l A B C E:List α}{o m i n j:Nat}(h:l=A++(B++C))(a:A.length=o)(c:B.length=m)(b:j=o+i∧i+n≤m)(hb:(B.drop i).take n=E):(l.drop j).take n=E:=by
 subst h;subst a;obtain⟨rfl,d⟩:=b;rw[gB,gC a8,bm,mR,gB,gj (by rw[aA];omega)];exact hb
theorem qv{α:Type}{l A B C E:List α}{o m n j:Nat}(h:l=A++(B++C))(a:A.length=o)(b:B.length=m)(c:j=o∧n≤m)(hb:B.take n=E):(l.drop j).take n=E:=
 a3C (i:=0) h a b ⟨c.1,by omega⟩ (by simpa using hb)
theorem a3D{α:Type}{l A B C E:List α}{m n:Nat}(h:l=A++(B++C))(a:A.length=0)(b:B.length=m)(c:n≤m)(hb:B.take n=E):l.take n=E:=by
 have:=qv (j:=0) h a b ⟨rfl,c⟩ hb;simpa using this
theorem cj{l l' A B B' C:List D}{o m:Nat}(h:l=A++(B++C))(c:A.length=o)(e:B.length=m)(a:B'.length=m)(b:l'=A++(B'++C)):b8 (l.map .d) o m (B'.map .d)=some (l'.map .d):=by
 subst h;subst b;subst c;unfold b8;rw[if_pos ⟨by simpa using a,by simp;omega⟩];simp only[fp];congr 1;rw[bj,gj (by simp),dq (by simp),←e];congr 1
 rw[gB,gC (by simp),bm,aQ,mR,gB,gC (by simp),bm,aQ,jl,jY]
theorem SC(fr:Fr)(cs:List AV):kh fr cs []=some cs:=rfl
theorem V4{α β:Type}(f:α→β)(l:List α)(n:Nat):(l.map f).drop n=(l.drop n).map f:=by rw[List.map_drop]
theorem V7{α β:Type}(f:α→β)(l:List α)(n:Nat):(l.map f).take n=(l.take n).map f:=by rw[List.map_take]
theorem wQ: ∀(ds:List D),kg (ds.map .d)=some ds
 |[]=>rfl
 |x::l=>by show(kg (l.map AV.d)).map (x:: ·)=_;rw[wQ l];rfl
theorem QO(ds:List D):aggA (ds.map .d)= .d (.agg ds):=by unfold aggA;rw[wQ]
theorem HE(ds:List D):toLs (ds.map .d)=some ds:=Fc (wQ ds)
theorem zM(s:List aa)(f:Nat): ∀(ds:List D),dA (bA s (f+1)) (ds.map .d)=some ds
 |[]=>rfl
 |x::l=>by
  have h:=zM s f l;simp only[bV,dA,h,bA,AV.toL]
theorem SX(ds:List D)(o i:Nat):(ds.drop o)[i]?=ds[o+i]? :=fm
theorem RI{α:Type}(sz:Nat)(l:List α):chunk sz 1 l=[l.take sz]:=rfl
abbrev kq(l:List CO)(x:CC):CC:= .seq (fo l) x
abbrev kd(t:Nat)(a b:CC):CC:= .cond (.t t) a b
abbrev kz(d:Nat)(n:Int):CC:= .seq (fo [o7 d n]) .ret
abbrev ku(n:Int):X:= .c (.d (.sc (.int .u32 n)))
abbrev kM(d:Nat)(x:X):CO:=o0 d (.mov x)
abbrev kB(d:Nat)(z:List AV):CO:=o0 d (.box (.c (.agg z)))
abbrev kP(d a b:Nat):CO:=o0 d (.pick (.t a) (.t b) xF)
abbrev kR(d a b:Nat):CO:=o0 d (.pick (.t a) xT (.t b))
abbrev kL(d g:Nat)(b:Bool)(t:Nat):CO:=og d g b (.ld none (.t t))
abbrev kF(d g:Nat)(b:Bool)(n t:Nat):CO:=og d g b (.fad n (.t t))
abbrev kG(d g:Nat)(b:Bool)(o:BinOp)(x y:X):CO:=og d g b (.bin o x y)
end Go.Bb
namespace Go.Proofs.Q
open Go Go.Bb Go.Proofs.Lg
open Go.Ab (D)
def Bytes(l:List Int):Prop:= ∀b∈l,0≤b∧b<256
structure Dg where
 l:List Int
 len:l.length=32
 by_:Bytes l
 deriving DecidableEq
theorem Dg.ext{a b:Dg}(h:a.l=b.l):a=b:=by
 cases a;cases b;cases h;rfl
def Dg.zero:Dg:=⟨List.replicate 32 0,by decide,by unfold Bytes;decide⟩
instance:Inhabited Dg:=⟨.zero⟩
def aP(d:Dg):List D:=d.l.map fun b=> .sc (.int .u8 b)
theorem ba(d:Dg):(aP d).length=32:=by simp[aP,d.len]
def eW(b:ByteArray):List D:=[.sc (.string b)]
theorem a2c(b:ByteArray):(eW b).length=1:=rfl
theorem rF(d:Dg):(aP d).take 32=aP d:=dq (by rw[ba];exact bk _)
theorem NS(x:Dg)(l:List D):(aP x++l).take 32=aP x:=by rw[gj (by rw[ba];exact bk _)];exact rF x
theorem a1B(x:Dg)(l:List D):(aP x++l).drop 32=l:=by rw[gB,gC (by rw[ba];exact bk _),ba];rfl
inductive Sx where
 |mk (isL:Bool) (atom:ByteArray) (l:List Sx)
mutual
def ak:Sx→List D
 | .mk b a l=>[.sc (.bool b),.sc (.string a),.sl 3 (ye l)]
def ye:List Sx→List (List D)
 |[]=>[]
 |x::l=>ak x::ye l
end
theorem O4: ∀(l:List Sx),ye l=l.map ak
 |[]=>by simp only[ye,e8]
 |x::l=>by simp only[ye,O4 l,bV]
theorem jP(b:Bool)(a:ByteArray)(l:List Sx):ak (.mk b a l)=[.sc (.bool b),.sc (.string a),.sl 3 (l.map ak)]:=by rw[ak,O4]
def Sx.isL:Sx→Bool
 | .mk b _ _=>b
def Sx.atom:Sx→ByteArray
 | .mk _ a _=>a
def Sx.list:Sx→List Sx
 | .mk _ _ l=>l
def Sx.zero:Sx:= .mk false ⟨#[]⟩ []
theorem jb(x:Sx):ak x=[.sc (.bool x.isL),.sc (.string x.atom),.sl 3 (x.list.map ak)]:=by cases x;exact jP ..
theorem cq(x:Sx):(ak x).length=3:=by rw[jb];rfl
theorem a2d(x:Sx):(ak x).take 3=ak x:=by rw[jb];rfl
theorem a2s(x:Sx)(l:List D):(ak x++l).take 3=ak x:=by rw[jb];rfl
theorem a2e(x:Sx)(l:List D):(ak x++l).drop 3=l:=by rw[jb];rfl
theorem a2f(x:Sx):(ak x)[0]?=some (.sc (.bool x.isL)):=by rw[jb];rfl
theorem a2g(x:Sx):(ak x)[1]?=some (.sc (.string x.atom)):=by rw[jb];rfl
theorem a2h(x:Sx):(ak x)[2]?=some (.sl 3 (x.list.map ak)):=by rw[jb];rfl
theorem a2p(x:Sx)(v:Bool):b8 ((ak x).map .d) 0 1 [.d (.sc (.bool v))]=some ((ak (.mk v x.atom x.list)).map .d):=by rw[jb,jP];rfl
theorem a2q(x:Sx)(v:ByteArray):b8 ((ak x).map .d) 1 1 [.d (.sc (.string v))]=some ((ak (.mk x.isL v x.list)).map .d):=by rw[jb,jP];rfl
theorem rH(x:Sx)(v:List Sx):b8 ((ak x).map .d) 2 1 [.d (.sl 3 (v.map ak))]=some ((ak (.mk x.isL x.atom v)).map .d):=by rw[jb,jP];rfl
theorem a2r(x:Sx)(l:List AV)(h:l.length=3):b8 l 0 3 ((ak x).map .d)=some ((ak x).map .d):=gN h (by rw[aQ,cq])
structure af where
 p:Dg
 n:Int
 deriving DecidableEq
def af.zero:af:=⟨Dg.zero,0⟩
instance:Inhabited af:=⟨.zero⟩
def aj(x:af):List D:=aP x.p++([.sc (.int .i64 (x.n))])
theorem az(x:af):(aj x).length=33:=by simp only[aj,aR,aY,b6,ba]
theorem GQ(x:af):(aj x).take 33=aj x:=dq (by rw[az];exact bk _)
theorem a1G(x:af)(l:List D):(aj x++l).take 33=aj x:=by rw[gj (by rw[az];exact bk _)];exact GQ x
theorem a1D(x:af)(l:List D):(aj x++l).drop 33=l:=by rw[gB,gC (by rw[az];exact bk _),az];rfl
theorem da(x:af)(l:List AV)(h:l.length=33):b8 l 0 33 ((aj x).map .d)=some ((aj x).map .d):=gN h (by rw[aQ,az])
theorem GR(x:af):aj x=([])++((aP x.p)++([.sc (.int .i64 (x.n))])):=by simp only[aj,bj,bg,bm]
theorem ou(x:af):((aj x)).take 32=aP x.p:=G8 (GR x) (by simp only[aR,aY,b6,ba]) (ba _)
theorem a1E(x:af)(v:Dg):b8 ((aj x).map .d) 0 32 ((aP v).map .d)=some ((aj {x with p:=v}).map .d):=cj (B':=aP v) (GR x) (by simp only[aR,aY,b6,ba]) (ba _) (ba _) (GR {x with p:=v})
theorem GS(x:af):aj x=(aP x.p)++(([.sc (.int .i64 (x.n))])++([])):=by simp only[aj,bj,bg,bm]
theorem ov(x:af):(aj x)[32]?=some (.sc (.int .i64 (x.n))):=gu (GS x) (by simp only[aR,aY,b6,ba])
theorem a1F(x:af)(v:Int):b8 ((aj x).map .d) 32 1 [.d (.sc (.int .i64 (v)))]=some ((aj {x with n:=v}).map .d):=cj (B':=[.sc (.int .i64 (v))]) (GS x) (by simp only[aR,aY,b6,ba]) rfl rfl (GS {x with n:=v})
structure aC where
 kind:Int
 file:af
 type:Int
 parent:af
 name:ByteArray
 mode:Int
 data:ByteArray
 after:af
 before:af
 lines:List ByteArray
 over:List af
 deriving DecidableEq
def aC.zero:aC:=⟨0,af.zero,0,af.zero,⟨#[]⟩,0,⟨#[]⟩,af.zero,af.zero,[],[]⟩
instance:Inhabited aC:=⟨.zero⟩
def aV(x:aC):List D:=[.sc (.int .i64 (x.kind))]++(aj x.file++([.sc (.int .i64 (x.type))]++(aj x.parent++([.sc (.string (x.name))]++([.sc (.int .i64 (x.mode))]++([.sc (.string (x.data))]++(aj x.after++(aj x.before++([.sl 1 ((x.lines).map eW)]++([.sl 33 ((x.over).map aj)]))))))))))
theorem de(x:aC):(aV x).length=139:=by simp only[aV,aR,aY,b6,az]
theorem NN(x:aC):(aV x).take 139=aV x:=dq (by rw[de];exact bk _)
theorem a1A(x:aC)(l:List D):(aV x++l).take 139=aV x:=by rw[gj (by rw[de];exact bk _)];exact NN x
theorem a04(x:aC)(l:List D):(aV x++l).drop 139=l:=by rw[gB,gC (by rw[de];exact bk _),de];rfl
theorem a1x(x:aC)(l:List AV)(h:l.length=139):b8 l 0 139 ((aV x).map .d)=some ((aV x).map .d):=gN h (by rw[aQ,de])
theorem GI(x:aC):aV x=([])++(([.sc (.int .i64 (x.kind))])++(aj x.file++([.sc (.int .i64 (x.type))]++(aj x.parent++([.sc (.string (x.name))]++([.sc (.int .i64 (x.mode))]++([.sc (.string (x.data))]++(aj x.after++(aj x.before++([.sl 1 ((x.lines).map eW)]++([.sl 33 ((x.over).map aj)]))))))))))):=by simp only[aV,bj,bg,bm]
theorem a05(x:aC):(aV x)[0]?=some (.sc (.int .i64 (x.kind))):=gu (GI x) (by simp only[aR,aY,b6,az])
theorem a1o(x:aC)(v:Int):b8 ((aV x).map .d) 0 1 [.d (.sc (.int .i64 (v)))]=some ((aV {x with kind:=v}).map .d):=cj (B':=[.sc (.int .i64 (v))]) (GI x) (by simp only[aR,aY,b6,az]) rfl rfl (GI {x with kind:=v})
theorem ya(x:aC):aV x=([.sc (.int .i64 (x.kind))])++((aj x.file)++([.sc (.int .i64 (x.type))]++(aj x.parent++([.sc (.string (x.name))]++([.sc (.int .i64 (x.mode))]++([.sc (.string (x.data))]++(aj x.after++(aj x.before++([.sl 1 ((x.lines).map eW)]++([.sl 33 ((x.over).map aj)])))))))))):=by simp only[aV,bj,bg,bm]
theorem a06(x:aC):((aV x).drop 1).take 33=aj x.file:=pw (ya x) (by simp only[aR,aY,b6,az]) (az _)
theorem a1p(x:aC)(v:af):b8 ((aV x).map .d) 1 33 ((aj v).map .d)=some ((aV {x with file:=v}).map .d):=cj (B':=aj v) (ya x) (by simp only[aR,aY,b6,az]) (az _) (az _) (ya {x with file:=v})
theorem a1j(x:aC):((aV x).drop 1).take 32=aP x.file.p:=qv (o:=1) (ya x) (by simp only[aR,aY,b6,az]) (az _) (by decide) (ou _)
theorem a1k(x:aC):(aV x)[33]?=some (.sc (.int .i64 (x.file.n))):=lF (o:=1) (i:=32) (ya x) (by simp only[aR,aY,b6,az]) (az _) (by decide) (ov _)
theorem GK(x:aC):aV x=([.sc (.int .i64 (x.kind))]++(aj x.file))++(([.sc (.int .i64 (x.type))])++(aj x.parent++([.sc (.string (x.name))]++([.sc (.int .i64 (x.mode))]++([.sc (.string (x.data))]++(aj x.after++(aj x.before++([.sl 1 ((x.lines).map eW)]++([.sl 33 ((x.over).map aj)]))))))))):=by simp only[aV,bj,bg,bm]
theorem a08(x:aC):(aV x)[34]?=some (.sc (.int .i64 (x.type))):=gu (GK x) (by simp only[aR,aY,b6,az])
theorem a1q(x:aC)(v:Int):b8 ((aV x).map .d) 34 1 [.d (.sc (.int .i64 (v)))]=some ((aV {x with type:=v}).map .d):=cj (B':=[.sc (.int .i64 (v))]) (GK x) (by simp only[aR,aY,b6,az]) rfl rfl (GK {x with type:=v})
theorem yb(x:aC):aV x=([.sc (.int .i64 (x.kind))]++(aj x.file++([.sc (.int .i64 (x.type))])))++((aj x.parent)++([.sc (.string (x.name))]++([.sc (.int .i64 (x.mode))]++([.sc (.string (x.data))]++(aj x.after++(aj x.before++([.sl 1 ((x.lines).map eW)]++([.sl 33 ((x.over).map aj)])))))))):=by simp only[aV,bj,bg,bm]
theorem a09(x:aC):((aV x).drop 35).take 33=aj x.parent:=pw (yb x) (by simp only[aR,aY,b6,az]) (az _)
theorem a1r(x:aC)(v:af):b8 ((aV x).map .d) 35 33 ((aj v).map .d)=some ((aV {x with parent:=v}).map .d):=cj (B':=aj v) (yb x) (by simp only[aR,aY,b6,az]) (az _) (az _) (yb {x with parent:=v})
theorem a1l(x:aC):((aV x).drop 35).take 32=aP x.parent.p:=qv (o:=35) (yb x) (by simp only[aR,aY,b6,az]) (az _) (by decide) (ou _)
theorem a1m(x:aC):(aV x)[67]?=some (.sc (.int .i64 (x.parent.n))):=lF (o:=35) (i:=32) (yb x) (by simp only[aR,aY,b6,az]) (az _) (by decide) (ov _)
theorem GL(x:aC):aV x=([.sc (.int .i64 (x.kind))]++(aj x.file++([.sc (.int .i64 (x.type))]++(aj x.parent))))++(([.sc (.string (x.name))])++([.sc (.int .i64 (x.mode))]++([.sc (.string (x.data))]++(aj x.after++(aj x.before++([.sl 1 ((x.lines).map eW)]++([.sl 33 ((x.over).map aj)]))))))):=by simp only[aV,bj,bg,bm]
theorem a1a(x:aC):(aV x)[68]?=some (.sc (.string (x.name))):=gu (GL x) (by simp only[aR,aY,b6,az])
theorem a1s(x:aC)(v:ByteArray):b8 ((aV x).map .d) 68 1 [.d (.sc (.string (v)))]=some ((aV {x with name:=v}).map .d):=cj (B':=[.sc (.string (v))]) (GL x) (by simp only[aR,aY,b6,az]) rfl rfl (GL {x with name:=v})
theorem GM(x:aC):aV x=([.sc (.int .i64 (x.kind))]++(aj x.file++([.sc (.int .i64 (x.type))]++(aj x.parent++([.sc (.string (x.name))])))))++(([.sc (.int .i64 (x.mode))])++([.sc (.string (x.data))]++(aj x.after++(aj x.before++([.sl 1 ((x.lines).map eW)]++([.sl 33 ((x.over).map aj)])))))):=by simp only[aV,bj,bg,bm]
theorem a1b(x:aC):(aV x)[69]?=some (.sc (.int .i64 (x.mode))):=gu (GM x) (by simp only[aR,aY,b6,az])
theorem a1t(x:aC)(v:Int):b8 ((aV x).map .d) 69 1 [.d (.sc (.int .i64 (v)))]=some ((aV {x with mode:=v}).map .d):=cj (B':=[.sc (.int .i64 (v))]) (GM x) (by simp only[aR,aY,b6,az]) rfl rfl (GM {x with mode:=v})
theorem GN(x:aC):aV x=([.sc (.int .i64 (x.kind))]++(aj x.file++([.sc (.int .i64 (x.type))]++(aj x.parent++([.sc (.string (x.name))]++([.sc (.int .i64 (x.mode))]))))))++(([.sc (.string (x.data))])++(aj x.after++(aj x.before++([.sl 1 ((x.lines).map eW)]++([.sl 33 ((x.over).map aj)]))))):=by simp only[aV,bj,bg,bm]
theorem a1c(x:aC):(aV x)[70]?=some (.sc (.string (x.data))):=gu (GN x) (by simp only[aR,aY,b6,az])
theorem a1u(x:aC)(v:ByteArray):b8 ((aV x).map .d) 70 1 [.d (.sc (.string (v)))]=some ((aV {x with data:=v}).map .d):=cj (B':=[.sc (.string (v))]) (GN x) (by simp only[aR,aY,b6,az]) rfl rfl (GN {x with data:=v})
theorem yc(x:aC):aV x=([.sc (.int .i64 (x.kind))]++(aj x.file++([.sc (.int .i64 (x.type))]++(aj x.parent++([.sc (.string (x.name))]++([.sc (.int .i64 (x.mode))]++([.sc (.string (x.data))])))))))++((aj x.after)++(aj x.before++([.sl 1 ((x.lines).map eW)]++([.sl 33 ((x.over).map aj)])))):=by simp only[aV,bj,bg,bm]
theorem a1d(x:aC):((aV x).drop 71).take 33=aj x.after:=pw (yc x) (by simp only[aR,aY,b6,az]) (az _)
theorem a1v(x:aC)(v:af):b8 ((aV x).map .d) 71 33 ((aj v).map .d)=some ((aV {x with after:=v}).map .d):=cj (B':=aj v) (yc x) (by simp only[aR,aY,b6,az]) (az _) (az _) (yc {x with after:=v})
theorem a1n(x:aC):((aV x).drop 71).take 32=aP x.after.p:=qv (o:=71) (yc x) (by simp only[aR,aY,b6,az]) (az _) (by decide) (ou _)
theorem a1g(x:aC):(aV x)[103]?=some (.sc (.int .i64 (x.after.n))):=lF (o:=71) (i:=32) (yc x) (by simp only[aR,aY,b6,az]) (az _) (by decide) (ov _)
theorem yd(x:aC):aV x=([.sc (.int .i64 (x.kind))]++(aj x.file++([.sc (.int .i64 (x.type))]++(aj x.parent++([.sc (.string (x.name))]++([.sc (.int .i64 (x.mode))]++([.sc (.string (x.data))]++(aj x.after))))))))++((aj x.before)++([.sl 1 ((x.lines).map eW)]++([.sl 33 ((x.over).map aj)]))):=by simp only[aV,bj,bg,bm]
theorem a1e(x:aC):((aV x).drop 104).take 33=aj x.before:=pw (yd x) (by simp only[aR,aY,b6,az]) (az _)
theorem a1w(x:aC)(v:af):b8 ((aV x).map .d) 104 33 ((aj v).map .d)=some ((aV {x with before:=v}).map .d):=cj (B':=aj v) (yd x) (by simp only[aR,aY,b6,az]) (az _) (az _) (yd {x with before:=v})
theorem a1h(x:aC):((aV x).drop 104).take 32=aP x.before.p:=qv (o:=104) (yd x) (by simp only[aR,aY,b6,az]) (az _) (by decide) (ou _)
theorem a1i(x:aC):(aV x)[136]?=some (.sc (.int .i64 (x.before.n))):=lF (o:=104) (i:=32) (yd x) (by simp only[aR,aY,b6,az]) (az _) (by decide) (ov _)
theorem GO(x:aC):aV x=([.sc (.int .i64 (x.kind))]++(aj x.file++([.sc (.int .i64 (x.type))]++(aj x.parent++([.sc (.string (x.name))]++([.sc (.int .i64 (x.mode))]++([.sc (.string (x.data))]++(aj x.after++(aj x.before)))))))))++(([.sl 1 ((x.lines).map eW)])++([.sl 33 ((x.over).map aj)])):=by simp only[aV,bj,bg,bm]
theorem a1f(x:aC):(aV x)[137]?=some (.sl 1 ((x.lines).map eW)):=gu (GO x) (by simp only[aR,aY,b6,az])
theorem NP(x:aC)(v:List ByteArray):b8 ((aV x).map .d) 137 1 [.d (.sl 1 ((v).map eW))]=some ((aV {x with lines:=v}).map .d):=cj (B':=[.sl 1 ((v).map eW)]) (GO x) (by simp only[aR,aY,b6,az]) rfl rfl (GO {x with lines:=v})
theorem a1z(x:aC):b8 ((aV x).map .d) 137 1 [.d (.sl 1 [])]=some ((aV {x with lines:=[]}).map .d):=NP x []
theorem GJ(x:aC):aV x=([.sc (.int .i64 (x.kind))]++(aj x.file++([.sc (.int .i64 (x.type))]++(aj x.parent++([.sc (.string (x.name))]++([.sc (.int .i64 (x.mode))]++([.sc (.string (x.data))]++(aj x.after++(aj x.before++([.sl 1 ((x.lines).map eW)]))))))))))++(([.sl 33 ((x.over).map aj)])++([])):=by simp only[aV,bj,bg,bm]
theorem a07(x:aC):(aV x)[138]?=some (.sl 33 ((x.over).map aj)):=gu (GJ x) (by simp only[aR,aY,b6,az])
theorem NO(x:aC)(v:List af):b8 ((aV x).map .d) 138 1 [.d (.sl 33 ((v).map aj))]=some ((aV {x with over:=v}).map .d):=cj (B':=[.sl 33 ((v).map aj)]) (GJ x) (by simp only[aR,aY,b6,az]) rfl rfl (GJ {x with over:=v})
theorem a1y(x:aC):b8 ((aV x).map .d) 138 1 [.d (.sl 33 [])]=some ((aV {x with over:=[]}).map .d):=NO x []
structure aX where
 author:ByteArray
 message:ByteArray
 time:Int
 deps:List Dg
 changes:List aC
 deriving DecidableEq
def aX.zero:aX:=⟨⟨#[]⟩,⟨#[]⟩,0,[],[]⟩
instance:Inhabited aX:=⟨.zero⟩
def bc(x:aX):List D:=[.sc (.string (x.author))]++([.sc (.string (x.message))]++([.sc (.int .i64 (x.time))]++([.sl 32 ((x.deps).map aP)]++([.sl 139 ((x.changes).map aV)]))))
theorem br(x:aX):(bc x).length=5:=by simp only[bc,aR,aY,b6]
theorem NV(x:aX):(bc x).take 5=bc x:=dq (by rw[br];exact bk _)
theorem a1X(x:aX)(l:List D):(bc x++l).take 5=bc x:=by rw[gj (by rw[br];exact bk _)];exact NV x
theorem a1Q(x:aX)(l:List D):(bc x++l).drop 5=l:=by rw[gB,gC (by rw[br];exact bk _),br];rfl
theorem a1U(x:aX)(l:List AV)(h:l.length=5):b8 l 0 5 ((bc x).map .d)=some ((bc x).map .d):=gN h (by rw[aQ,br])
theorem GZ(x:aX):bc x=([])++(([.sc (.string (x.author))])++([.sc (.string (x.message))]++([.sc (.int .i64 (x.time))]++([.sl 32 ((x.deps).map aP)]++([.sl 139 ((x.changes).map aV)]))))):=by simp only[bc,bj,bg,bm]
theorem NW(x:aX):(bc x)[0]?=some (.sc (.string (x.author))):=gu (GZ x) (by simp only[aR,aY,b6])
theorem a1R(x:aX)(v:ByteArray):b8 ((bc x).map .d) 0 1 [.d (.sc (.string (v)))]=some ((bc {x with author:=v}).map .d):=cj (B':=[.sc (.string (v))]) (GZ x) (by simp only[aR,aY,b6]) rfl rfl (GZ {x with author:=v})
theorem H0(x:aX):bc x=([.sc (.string (x.author))])++(([.sc (.string (x.message))])++([.sc (.int .i64 (x.time))]++([.sl 32 ((x.deps).map aP)]++([.sl 139 ((x.changes).map aV)])))):=by simp only[bc,bj,bg,bm]
theorem NX(x:aX):(bc x)[1]?=some (.sc (.string (x.message))):=gu (H0 x) (by simp only[aR,aY,b6])
theorem a1S(x:aX)(v:ByteArray):b8 ((bc x).map .d) 1 1 [.d (.sc (.string (v)))]=some ((bc {x with message:=v}).map .d):=cj (B':=[.sc (.string (v))]) (H0 x) (by simp only[aR,aY,b6]) rfl rfl (H0 {x with message:=v})
theorem H2(x:aX):bc x=([.sc (.string (x.author))]++([.sc (.string (x.message))]))++(([.sc (.int .i64 (x.time))])++([.sl 32 ((x.deps).map aP)]++([.sl 139 ((x.changes).map aV)]))):=by simp only[bc,bj,bg,bm]
theorem NY(x:aX):(bc x)[2]?=some (.sc (.int .i64 (x.time))):=gu (H2 x) (by simp only[aR,aY,b6])
theorem a1T(x:aX)(v:Int):b8 ((bc x).map .d) 2 1 [.d (.sc (.int .i64 (v)))]=some ((bc {x with time:=v}).map .d):=cj (B':=[.sc (.int .i64 (v))]) (H2 x) (by simp only[aR,aY,b6]) rfl rfl (H2 {x with time:=v})
theorem H3(x:aX):bc x=([.sc (.string (x.author))]++([.sc (.string (x.message))]++([.sc (.int .i64 (x.time))])))++(([.sl 32 ((x.deps).map aP)])++([.sl 139 ((x.changes).map aV)])):=by simp only[bc,bj,bg,bm]
theorem NZ(x:aX):(bc x)[3]?=some (.sl 32 ((x.deps).map aP)):=gu (H3 x) (by simp only[aR,aY,b6])
theorem O1(x:aX)(v:List Dg):b8 ((bc x).map .d) 3 1 [.d (.sl 32 ((v).map aP))]=some ((bc {x with deps:=v}).map .d):=cj (B':=[.sl 32 ((v).map aP)]) (H3 x) (by simp only[aR,aY,b6]) rfl rfl (H3 {x with deps:=v})
theorem a1V(x:aX):b8 ((bc x).map .d) 3 1 [.d (.sl 32 [])]=some ((bc {x with deps:=[]}).map .d):=O1 x []
theorem H4(x:aX):bc x=([.sc (.string (x.author))]++([.sc (.string (x.message))]++([.sc (.int .i64 (x.time))]++([.sl 32 ((x.deps).map aP)]))))++(([.sl 139 ((x.changes).map aV)])++([])):=by simp only[bc,bj,bg,bm]
theorem O0(x:aX):(bc x)[4]?=some (.sl 139 ((x.changes).map aV)):=gu (H4 x) (by simp only[aR,aY,b6])
theorem O2(x:aX)(v:List aC):b8 ((bc x).map .d) 4 1 [.d (.sl 139 ((v).map aV))]=some ((bc {x with changes:=v}).map .d):=cj (B':=[.sl 139 ((v).map aV)]) (H4 x) (by simp only[aR,aY,b6]) rfl rfl (H4 {x with changes:=v})
theorem a1W(x:aX):b8 ((bc x).map .d) 4 1 [.d (.sl 139 [])]=some ((bc {x with changes:=[]}).map .d):=O2 x []
structure bT where
 id:Dg
 pat:aX
 deriving DecidableEq
def bT.zero:bT:=⟨Dg.zero,aX.zero⟩
instance:Inhabited bT:=⟨.zero⟩
def b5(x:bT):List D:=aP x.id++(bc x.pat)
theorem fH(x:bT):(b5 x).length=37:=by simp only[b5,aR,aY,b6,ba,br]
theorem O3(x:bT):(b5 x).take 37=b5 x:=dq (by rw[fH];exact bk _)
theorem a2b(x:bT)(l:List D):(b5 x++l).take 37=b5 x:=by rw[gj (by rw[fH];exact bk _)];exact O3 x
theorem a1Y(x:bT)(l:List D):(b5 x++l).drop 37=l:=by rw[gB,gC (by rw[fH];exact bk _),fH];rfl
theorem a2a(x:bT)(l:List AV)(h:l.length=37):b8 l 0 37 ((b5 x).map .d)=some ((b5 x).map .d):=gN h (by rw[aQ,fH])
theorem H5(x:bT):b5 x=([])++((aP x.id)++(bc x.pat)):=by simp only[b5,bj,bg,bm]
theorem a1Z(x:bT):((b5 x)).take 32=aP x.id:=G8 (H5 x) (by simp only[aR,aY,b6,ba,br]) (ba _)
theorem a18(x:bT)(v:Dg):b8 ((b5 x).map .d) 0 32 ((aP v).map .d)=some ((b5 {x with id:=v}).map .d):=cj (B':=aP v) (H5 x) (by simp only[aR,aY,b6,ba,br]) (ba _) (ba _) (H5 {x with id:=v})
theorem rG(x:bT):b5 x=(aP x.id)++((bc x.pat)++([])):=by simp only[b5,bj,bg,bm]
theorem a10(x:bT):((b5 x).drop 32).take 5=bc x.pat:=pw (rG x) (by simp only[aR,aY,b6,ba,br]) (br _)
theorem a19(x:bT)(v:aX):b8 ((b5 x).map .d) 32 5 ((bc v).map .d)=some ((b5 {x with pat:=v}).map .d):=cj (B':=bc v) (rG x) (by simp only[aR,aY,b6,ba,br]) (br _) (br _) (rG {x with pat:=v})
theorem a11(x:bT):(b5 x)[32]?=some (.sc (.string (x.pat.author))):=lF (o:=32) (i:=0) (rG x) (by simp only[aR,aY,b6,ba,br]) (br _) (by decide) (NW _)
theorem a13(x:bT):(b5 x)[33]?=some (.sc (.string (x.pat.message))):=lF (o:=32) (i:=1) (rG x) (by simp only[aR,aY,b6,ba,br]) (br _) (by decide) (NX _)
theorem a14(x:bT):(b5 x)[34]?=some (.sc (.int .i64 (x.pat.time))):=lF (o:=32) (i:=2) (rG x) (by simp only[aR,aY,b6,ba,br]) (br _) (by decide) (NY _)
theorem a15(x:bT):(b5 x)[35]?=some (.sl 32 ((x.pat.deps).map aP)):=lF (o:=32) (i:=3) (rG x) (by simp only[aR,aY,b6,ba,br]) (br _) (by decide) (NZ _)
theorem a16(x:bT):(b5 x)[36]?=some (.sl 139 ((x.pat.changes).map aV)):=lF (o:=32) (i:=4) (rG x) (by simp only[aR,aY,b6,ba,br]) (br _) (by decide) (O0 _)
structure au where
 id:af
 kind:Int
 file:af
 type:Int
 parent:af
 name:ByteArray
 mode:Int
 data:ByteArray
 text:ByteArray
 fro:af
 til:af
 over:List af
 deriving DecidableEq
def au.zero:au:=⟨af.zero,0,af.zero,0,af.zero,⟨#[]⟩,0,⟨#[]⟩,⟨#[]⟩,af.zero,af.zero,[]⟩
instance:Inhabited au:=⟨.zero⟩
def aI(x:au):List D:=aj x.id++([.sc (.int .i64 (x.kind))]++(aj x.file++([.sc (.int .i64 (x.type))]++(aj x.parent++([.sc (.string (x.name))]++([.sc (.int .i64 (x.mode))]++([.sc (.string (x.data))]++([.sc (.string (x.text))]++(aj x.fro++(aj x.til++([.sl 33 ((x.over).map aj)])))))))))))
theorem bb(x:au):(aI x).length=172:=by simp only[aI,aR,aY,b6,az]
theorem NL(x:au):(aI x).take 172=aI x:=dq (by rw[bb];exact bk _)
theorem a02(x:au)(l:List D):(aI x++l).take 172=aI x:=by rw[gj (by rw[bb];exact bk _)];exact NL x
theorem a0t(x:au)(l:List D):(aI x++l).drop 172=l:=by rw[gB,gC (by rw[bb];exact bk _),bb];rfl
theorem kI(x:au)(l:List AV)(h:l.length=172):b8 l 0 172 ((aI x).map .d)=some ((aI x).map .d):=gN h (by rw[aQ,bb])
theorem xV(x:au):aI x=([])++((aj x.id)++([.sc (.int .i64 (x.kind))]++(aj x.file++([.sc (.int .i64 (x.type))]++(aj x.parent++([.sc (.string (x.name))]++([.sc (.int .i64 (x.mode))]++([.sc (.string (x.data))]++([.sc (.string (x.text))]++(aj x.fro++(aj x.til++([.sl 33 ((x.over).map aj)])))))))))))):=by simp only[aI,bj,bg,bm]
theorem a0u(x:au):((aI x)).take 33=aj x.id:=G8 (xV x) (by simp only[aR,aY,b6,az]) (az _)
theorem a0Q(x:au)(v:af):b8 ((aI x).map .d) 0 33 ((aj v).map .d)=some ((aI {x with id:=v}).map .d):=cj (B':=aj v) (xV x) (by simp only[aR,aY,b6,az]) (az _) (az _) (xV {x with id:=v})
theorem a0G(x:au):(aI x).take 32=aP x.id.p:=a3D (xV x) (by simp only[aR,aY,b6,az]) (az _) (by decide) (ou _)
theorem a0M(x:au):(aI x)[32]?=some (.sc (.int .i64 (x.id.n))):=lF (o:=0) (i:=32) (xV x) (by simp only[aR,aY,b6,az]) (az _) (by decide) (ov _)
theorem GA(x:au):aI x=(aj x.id)++(([.sc (.int .i64 (x.kind))])++(aj x.file++([.sc (.int .i64 (x.type))]++(aj x.parent++([.sc (.string (x.name))]++([.sc (.int .i64 (x.mode))]++([.sc (.string (x.data))]++([.sc (.string (x.text))]++(aj x.fro++(aj x.til++([.sl 33 ((x.over).map aj)]))))))))))):=by simp only[aI,bj,bg,bm]
theorem a0v(x:au):(aI x)[33]?=some (.sc (.int .i64 (x.kind))):=gu (GA x) (by simp only[aR,aY,b6,az])
theorem a0R(x:au)(v:Int):b8 ((aI x).map .d) 33 1 [.d (.sc (.int .i64 (v)))]=some ((aI {x with kind:=v}).map .d):=cj (B':=[.sc (.int .i64 (v))]) (GA x) (by simp only[aR,aY,b6,az]) rfl rfl (GA {x with kind:=v})
theorem xX(x:au):aI x=(aj x.id++([.sc (.int .i64 (x.kind))]))++((aj x.file)++([.sc (.int .i64 (x.type))]++(aj x.parent++([.sc (.string (x.name))]++([.sc (.int .i64 (x.mode))]++([.sc (.string (x.data))]++([.sc (.string (x.text))]++(aj x.fro++(aj x.til++([.sl 33 ((x.over).map aj)])))))))))):=by simp only[aI,bj,bg,bm]
theorem a0y(x:au):((aI x).drop 34).take 33=aj x.file:=pw (xX x) (by simp only[aR,aY,b6,az]) (az _)
theorem a0T(x:au)(v:af):b8 ((aI x).map .d) 34 33 ((aj v).map .d)=some ((aI {x with file:=v}).map .d):=cj (B':=aj v) (xX x) (by simp only[aR,aY,b6,az]) (az _) (az _) (xX {x with file:=v})
theorem a0N(x:au):((aI x).drop 34).take 32=aP x.file.p:=qv (o:=34) (xX x) (by simp only[aR,aY,b6,az]) (az _) (by decide) (ou _)
theorem a0O(x:au):(aI x)[66]?=some (.sc (.int .i64 (x.file.n))):=lF (o:=34) (i:=32) (xX x) (by simp only[aR,aY,b6,az]) (az _) (by decide) (ov _)
theorem GC(x:au):aI x=(aj x.id++([.sc (.int .i64 (x.kind))]++(aj x.file)))++(([.sc (.int .i64 (x.type))])++(aj x.parent++([.sc (.string (x.name))]++([.sc (.int .i64 (x.mode))]++([.sc (.string (x.data))]++([.sc (.string (x.text))]++(aj x.fro++(aj x.til++([.sl 33 ((x.over).map aj)]))))))))):=by simp only[aI,bj,bg,bm]
theorem a0z(x:au):(aI x)[67]?=some (.sc (.int .i64 (x.type))):=gu (GC x) (by simp only[aR,aY,b6,az])
theorem a0U(x:au)(v:Int):b8 ((aI x).map .d) 67 1 [.d (.sc (.int .i64 (v)))]=some ((aI {x with type:=v}).map .d):=cj (B':=[.sc (.int .i64 (v))]) (GC x) (by simp only[aR,aY,b6,az]) rfl rfl (GC {x with type:=v})
theorem xY(x:au):aI x=(aj x.id++([.sc (.int .i64 (x.kind))]++(aj x.file++([.sc (.int .i64 (x.type))]))))++((aj x.parent)++([.sc (.string (x.name))]++([.sc (.int .i64 (x.mode))]++([.sc (.string (x.data))]++([.sc (.string (x.text))]++(aj x.fro++(aj x.til++([.sl 33 ((x.over).map aj)])))))))):=by simp only[aI,bj,bg,bm]
theorem a0A(x:au):((aI x).drop 68).take 33=aj x.parent:=pw (xY x) (by simp only[aR,aY,b6,az]) (az _)
theorem a0V(x:au)(v:af):b8 ((aI x).map .d) 68 33 ((aj v).map .d)=some ((aI {x with parent:=v}).map .d):=cj (B':=aj v) (xY x) (by simp only[aR,aY,b6,az]) (az _) (az _) (xY {x with parent:=v})
theorem a0P(x:au):((aI x).drop 68).take 32=aP x.parent.p:=qv (o:=68) (xY x) (by simp only[aR,aY,b6,az]) (az _) (by decide) (ou _)
theorem a0H(x:au):(aI x)[100]?=some (.sc (.int .i64 (x.parent.n))):=lF (o:=68) (i:=32) (xY x) (by simp only[aR,aY,b6,az]) (az _) (by decide) (ov _)
theorem GD(x:au):aI x=(aj x.id++([.sc (.int .i64 (x.kind))]++(aj x.file++([.sc (.int .i64 (x.type))]++(aj x.parent)))))++(([.sc (.string (x.name))])++([.sc (.int .i64 (x.mode))]++([.sc (.string (x.data))]++([.sc (.string (x.text))]++(aj x.fro++(aj x.til++([.sl 33 ((x.over).map aj)]))))))):=by simp only[aI,bj,bg,bm]
theorem a0B(x:au):(aI x)[101]?=some (.sc (.string (x.name))):=gu (GD x) (by simp only[aR,aY,b6,az])
theorem a0W(x:au)(v:ByteArray):b8 ((aI x).map .d) 101 1 [.d (.sc (.string (v)))]=some ((aI {x with name:=v}).map .d):=cj (B':=[.sc (.string (v))]) (GD x) (by simp only[aR,aY,b6,az]) rfl rfl (GD {x with name:=v})
theorem GF(x:au):aI x=(aj x.id++([.sc (.int .i64 (x.kind))]++(aj x.file++([.sc (.int .i64 (x.type))]++(aj x.parent++([.sc (.string (x.name))]))))))++(([.sc (.int .i64 (x.mode))])++([.sc (.string (x.data))]++([.sc (.string (x.text))]++(aj x.fro++(aj x.til++([.sl 33 ((x.over).map aj)])))))):=by simp only[aI,bj,bg,bm]
theorem a0C(x:au):(aI x)[102]?=some (.sc (.int .i64 (x.mode))):=gu (GF x) (by simp only[aR,aY,b6,az])
theorem a0X(x:au)(v:Int):b8 ((aI x).map .d) 102 1 [.d (.sc (.int .i64 (v)))]=some ((aI {x with mode:=v}).map .d):=cj (B':=[.sc (.int .i64 (v))]) (GF x) (by simp only[aR,aY,b6,az]) rfl rfl (GF {x with mode:=v})
theorem GG(x:au):aI x=(aj x.id++([.sc (.int .i64 (x.kind))]++(aj x.file++([.sc (.int .i64 (x.type))]++(aj x.parent++([.sc (.string (x.name))]++([.sc (.int .i64 (x.mode))])))))))++(([.sc (.string (x.data))])++([.sc (.string (x.text))]++(aj x.fro++(aj x.til++([.sl 33 ((x.over).map aj)]))))):=by simp only[aI,bj,bg,bm]
theorem a0D(x:au):(aI x)[103]?=some (.sc (.string (x.data))):=gu (GG x) (by simp only[aR,aY,b6,az])
theorem a0Y(x:au)(v:ByteArray):b8 ((aI x).map .d) 103 1 [.d (.sc (.string (v)))]=some ((aI {x with data:=v}).map .d):=cj (B':=[.sc (.string (v))]) (GG x) (by simp only[aR,aY,b6,az]) rfl rfl (GG {x with data:=v})
theorem GH(x:au):aI x=(aj x.id++([.sc (.int .i64 (x.kind))]++(aj x.file++([.sc (.int .i64 (x.type))]++(aj x.parent++([.sc (.string (x.name))]++([.sc (.int .i64 (x.mode))]++([.sc (.string (x.data))]))))))))++(([.sc (.string (x.text))])++(aj x.fro++(aj x.til++([.sl 33 ((x.over).map aj)])))):=by simp only[aI,bj,bg,bm]
theorem a0E(x:au):(aI x)[104]?=some (.sc (.string (x.text))):=gu (GH x) (by simp only[aR,aY,b6,az])
theorem a0Z(x:au)(v:ByteArray):b8 ((aI x).map .d) 104 1 [.d (.sc (.string (v)))]=some ((aI {x with text:=v}).map .d):=cj (B':=[.sc (.string (v))]) (GH x) (by simp only[aR,aY,b6,az]) rfl rfl (GH {x with text:=v})
theorem xZ(x:au):aI x=(aj x.id++([.sc (.int .i64 (x.kind))]++(aj x.file++([.sc (.int .i64 (x.type))]++(aj x.parent++([.sc (.string (x.name))]++([.sc (.int .i64 (x.mode))]++([.sc (.string (x.data))]++([.sc (.string (x.text))])))))))))++((aj x.fro)++(aj x.til++([.sl 33 ((x.over).map aj)]))):=by simp only[aI,bj,bg,bm]
theorem a0F(x:au):((aI x).drop 105).take 33=aj x.fro:=pw (xZ x) (by simp only[aR,aY,b6,az]) (az _)
theorem a00(x:au)(v:af):b8 ((aI x).map .d) 105 33 ((aj v).map .d)=some ((aI {x with fro:=v}).map .d):=cj (B':=aj v) (xZ x) (by simp only[aR,aY,b6,az]) (az _) (az _) (xZ {x with fro:=v})
theorem a0I(x:au):((aI x).drop 105).take 32=aP x.fro.p:=qv (o:=105) (xZ x) (by simp only[aR,aY,b6,az]) (az _) (by decide) (ou _)
theorem a0J(x:au):(aI x)[137]?=some (.sc (.int .i64 (x.fro.n))):=lF (o:=105) (i:=32) (xZ x) (by simp only[aR,aY,b6,az]) (az _) (by decide) (ov _)
theorem xW(x:au):aI x=(aj x.id++([.sc (.int .i64 (x.kind))]++(aj x.file++([.sc (.int .i64 (x.type))]++(aj x.parent++([.sc (.string (x.name))]++([.sc (.int .i64 (x.mode))]++([.sc (.string (x.data))]++([.sc (.string (x.text))]++(aj x.fro))))))))))++((aj x.til)++([.sl 33 ((x.over).map aj)])):=by simp only[aI,bj,bg,bm]
theorem a0w(x:au):((aI x).drop 138).take 33=aj x.til:=pw (xW x) (by simp only[aR,aY,b6,az]) (az _)
theorem a0S(x:au)(v:af):b8 ((aI x).map .d) 138 33 ((aj v).map .d)=some ((aI {x with til:=v}).map .d):=cj (B':=aj v) (xW x) (by simp only[aR,aY,b6,az]) (az _) (az _) (xW {x with til:=v})
theorem a0K(x:au):((aI x).drop 138).take 32=aP x.til.p:=qv (o:=138) (xW x) (by simp only[aR,aY,b6,az]) (az _) (by decide) (ou _)
theorem a0L(x:au):(aI x)[170]?=some (.sc (.int .i64 (x.til.n))):=lF (o:=138) (i:=32) (xW x) (by simp only[aR,aY,b6,az]) (az _) (by decide) (ov _)
theorem GB(x:au):aI x=(aj x.id++([.sc (.int .i64 (x.kind))]++(aj x.file++([.sc (.int .i64 (x.type))]++(aj x.parent++([.sc (.string (x.name))]++([.sc (.int .i64 (x.mode))]++([.sc (.string (x.data))]++([.sc (.string (x.text))]++(aj x.fro++(aj x.til)))))))))))++(([.sl 33 ((x.over).map aj)])++([])):=by simp only[aI,bj,bg,bm]
theorem a0x(x:au):(aI x)[171]?=some (.sl 33 ((x.over).map aj)):=gu (GB x) (by simp only[aR,aY,b6,az])
theorem NM(x:au)(v:List af):b8 ((aI x).map .d) 171 1 [.d (.sl 33 ((v).map aj))]=some ((aI {x with over:=v}).map .d):=cj (B':=[.sl 33 ((v).map aj)]) (GB x) (by simp only[aR,aY,b6,az]) rfl rfl (GB {x with over:=v})
theorem a01(x:au):b8 ((aI x).map .d) 171 1 [.d (.sl 33 [])]=some ((aI {x with over:=[]}).map .d):=NM x []
structure Meta where
 author:ByteArray
 message:ByteArray
 time:Int
 deriving DecidableEq
def Meta.zero:Meta:=⟨⟨#[]⟩,⟨#[]⟩,0⟩
instance:Inhabited Meta:=⟨.zero⟩
def gf(x:Meta):List D:=[.sc (.string (x.author))]++([.sc (.string (x.message))]++([.sc (.int .i64 (x.time))]))
theorem vC(x:Meta):(gf x).length=3:=by simp only[gf,aR,aY,b6]
theorem NU(x:Meta):(gf x).take 3=gf x:=dq (by rw[vC];exact bk _)
theorem a1P(x:Meta)(l:List D):(gf x++l).take 3=gf x:=by rw[gj (by rw[vC];exact bk _)];exact NU x
theorem a1H(x:Meta)(l:List D):(gf x++l).drop 3=l:=by rw[gB,gC (by rw[vC];exact bk _),vC];rfl
theorem a1O(x:Meta)(l:List AV)(h:l.length=3):b8 l 0 3 ((gf x).map .d)=some ((gf x).map .d):=gN h (by rw[aQ,vC])
theorem GV(x:Meta):gf x=([])++(([.sc (.string (x.author))])++([.sc (.string (x.message))]++([.sc (.int .i64 (x.time))]))):=by simp only[gf,bj,bg,bm]
theorem a1I(x:Meta):(gf x)[0]?=some (.sc (.string (x.author))):=gu (GV x) (by simp only[aR,aY,b6])
theorem a1L(x:Meta)(v:ByteArray):b8 ((gf x).map .d) 0 1 [.d (.sc (.string (v)))]=some ((gf {x with author:=v}).map .d):=cj (B':=[.sc (.string (v))]) (GV x) (by simp only[aR,aY,b6]) rfl rfl (GV {x with author:=v})
theorem GX(x:Meta):gf x=([.sc (.string (x.author))])++(([.sc (.string (x.message))])++([.sc (.int .i64 (x.time))])):=by simp only[gf,bj,bg,bm]
theorem a1J(x:Meta):(gf x)[1]?=some (.sc (.string (x.message))):=gu (GX x) (by simp only[aR,aY,b6])
theorem a1M(x:Meta)(v:ByteArray):b8 ((gf x).map .d) 1 1 [.d (.sc (.string (v)))]=some ((gf {x with message:=v}).map .d):=cj (B':=[.sc (.string (v))]) (GX x) (by simp only[aR,aY,b6]) rfl rfl (GX {x with message:=v})
theorem GY(x:Meta):gf x=([.sc (.string (x.author))]++([.sc (.string (x.message))]))++(([.sc (.int .i64 (x.time))])++([])):=by simp only[gf,bj,bg,bm]
theorem a1K(x:Meta):(gf x)[2]?=some (.sc (.int .i64 (x.time))):=gu (GY x) (by simp only[aR,aY,b6])
theorem a1N(x:Meta)(v:Int):b8 ((gf x).map .d) 2 1 [.d (.sc (.int .i64 (v)))]=some ((gf {x with time:=v}).map .d):=cj (B':=[.sc (.int .i64 (v))]) (GY x) (by simp only[aR,aY,b6]) rfl rfl (GY {x with time:=v})
def eV:List SK:=List.replicate 32 .i
def cJ:List SK:=List.replicate 33 .i
def ej:List AV:=(aP .zero).map .d
def cQ:List AV:=(aj .zero).map .d
def oG:List AV:=(aV .zero).map .d
def ee:List AV:=(aI .zero).map .d
def yL:List AV:=(b5 .zero).map .d
def oH:List AV:=(oG.set 137 (.nil 1)).set 138 (.nil 33)
def dZ:List AV:=ee.set 171 (.nil 33)
def vY:List AV:=(yL.set 35 (.nil 32)).set 36 (.nil 139)
theorem fb{vs:List AV}(h:vs.length=139):b8 oH 0 139 vs=some vs:=gN (by simp[oH,oG,de]) h
theorem bz{vs:List AV}(h:vs.length=172):b8 dZ 0 172 vs=some vs:=gN (by simp[dZ,ee,bb]) h
theorem yM{vs:List AV}(h:vs.length=37):b8 vY 0 37 vs=some vs:=gN (by simp[vY,yL,fH]) h
set_option maxRecDepth 10000 in
theorem a4l:toLs oH=some (aV .zero):=by rfl
set_option maxRecDepth 10000 in
theorem a4k:toLs dZ=some (aI .zero):=by rfl
theorem a4t:toLs vY=some (b5 .zero):=by rfl
def eh(d:Dg):List Value:=d.l.map fun b=> .int .u8 b
def df(x:af):List Value:=eh x.p++[.int .i64 x.n]
theorem Hn: ∀(l:List Value),jR ((l.map D.sc).map .d)=some l
 |[]=>rfl
 |v::l=>by show(jR ((l.map D.sc).map AV.d)).map (v:: ·)=_;rw[Hn l];rfl
theorem GP(d:Dg):aP d=(eh d).map .sc:=by unfold aP eh;rw[nJ];rfl
theorem NT(x:af):aj x=(df x).map .sc:=by unfold aj df;rw[fp,GP];rfl
theorem KK(d:Dg):AV.key true (.d (.agg (aP d)))=some (eh d):=by
 show(some ((aP d).map AV.d)).bind jR=_;rw[GP];exact Hn _
theorem KM(x:af):AV.key true (.d (.agg (aj x)))=some (df x):=by
 show(some ((aj x).map AV.d)).bind jR=_;rw[NT];exact Hn _
theorem Tv:AV.key true (.agg ej)=some (eh .zero):=KK .zero
theorem Tw:AV.key true (.agg cQ)=some (df .zero):=KM .zero
theorem Es(d:Dg):(eh d).length=32:=by unfold eh;rw[aQ,d.len]
theorem a3S(x:af):(df x).length=33:=by unfold df;rw[aR,Es];rfl
theorem Fl(k:IntKind): ∀(a b:List Int) (ks:List SK) (us vs:List Value) (r:Bool),a.length=b.length→bx ks us vs=some r→bx (List.replicate a.length .i++ks) (a.map (Value.int k)++us) (b.map (Value.int k)++vs)=some (decide (a=b)&&r)
 |[],[],ks,us,vs,r,_,h=>by simpa using h
 |x::a,y::b,ks,us,vs,r,hl,h=>by
  have:=Fl k a b ks us vs r (by simpa using hl) h;rw[aY,sa];show(if k=k then(bx (List.replicate a.length .i++ks) (a.map (Value.int k)++us) (b.map (Value.int k)++vs)).map ((x==y)&& ·)else none)=_;rw[if_pos rfl,this];show some ((x==y)&&(decide (a=b)&&r))=_;congr 1;by_cases e:x=y
  ·subst e;simp
  ·simp[e]
 |[],_::_,_,_,_,_,hl,_=>by simp at hl
 |_::_,[],_,_,_,_,hl,_=>by simp at hl
theorem Dg.eq_l{a b:Dg}:decide (a.l=b.l)=decide (a=b):=by
 by_cases h:a=b
 ·subst h;simp
 ·rw[decide_eq_false h,decide_eq_false fun e=>h (Dg.ext e)]
theorem JQ(a b:Dg):bx eV (eh a) (eh b)=some (decide (a=b)):=by
 have h:=Fl .u8 a.l b.l [] [] [] true (by rw[a.len,b.len]) rfl;rw[a.len,bg,bg,bg,Bool.and_true,Dg.eq_l]at h;exact h
theorem JR(a b:af):bx cJ (df a) (df b)=some (decide (a=b)):=by
 have h:=Fl .u8 a.p.l b.p.l [.i] [.int .i64 a.n] [.int .i64 b.n] (a.n==b.n) (by rw[a.p.len,b.p.len]) (by show(if IntKind.i64=IntKind.i64 then(some true).map ((a.n==b.n)&& ·)else none)=_;rw[if_pos rfl];simp);rw[a.p.len,Dg.eq_l]at h;refine h.trans ?_;congr 1;cases a;cases b;simp only[af.mk.injEq];rw[mJ];simp
theorem Tt:eV.length=32:=rfl
theorem Tu:cJ.length=33:=rfl
def ep:List AV:=[.d (.sc (.bool false)),.d (.sc (.string ⟨#[]⟩)),.nil 3]
theorem dH{vs:List AV}(h:vs.length=3):b8 ep 0 3 vs=some vs:=gN rfl h
theorem a4K:toLs ep=some (ak .zero):=by rw[Sx.zero,jP];rfl
def bt(k:IntKind)(l:List Int):List D:=l.map fun n=> .sc (.int k n)
theorem ed(k:IntKind)(l:List Int):(bt k l).length=l.length:=by simp[bt]
theorem oy(k:IntKind)(l:List Int)(i:Nat):(bt k l)[i]?=(l[i]?).map fun n=> .sc (.int k n):=by unfold bt;rw[dL]
theorem nj{k:IntKind}{l:List Int}{i:Nat}(h:i<l.length)(v:Int):b8 ((bt k l).map .d) i 1 [.d (.sc (.int k v))]=some ((bt k (l.set i v)).map .d):=by
 unfold b8;rw[if_pos ⟨rfl,by simp[bt];omega⟩];congr 1;rw[List.set_eq_take_append_cons_drop,if_pos h];simp[bt]
theorem lq{k:IntKind}{l:List Int}{n:Nat}{vs:List AV}(h:l.length=n)(a:vs.length=n):b8 ((bt k l).map .d) 0 n vs=some vs:=gN (by simp[bt,h]) a
theorem a1C(d:Dg):aP d=bt .u8 d.l:=rfl
def z64:List AV:=(bt .u32 (List.replicate 64 0)).map .d
def z8:List AV:=(bt .u32 (List.replicate 8 0)).map .d
def HP:List AV:=(aj .zero++(aj .zero)).map .d
theorem a4m(a0 a x:af):b8 ((aj a0++(aj a)).map .d) 0 33 ((aj x).map .d)=some ((aj x++(aj a)).map .d):=cj (B:=aj a0) (B':=aj x) (A:=[]) (C:=(aj a)) (by simp only[bj,bg,bm]) (by simp only[aR,b6,az]) (az _) (az _) (by simp only[bj,bg,bm])
theorem a4n(a0 a x:af):b8 ((aj a0++(aj a)).map .d) 33 33 ((aj x).map .d)=some ((aj a0++(aj x)).map .d):=cj (B:=aj a) (B':=aj x) (A:=(aj a0)) (C:=[]) (by simp only[bj,bg,bm]) (by simp only[aR,b6,az]) (az _) (az _) (by simp only[bj,bg,bm])
def PJ:List AV:=(aj .zero++(aj .zero++(aj .zero++(aj .zero)))).map .d
theorem a4o(a0 a a2 a3 x:af):b8 ((aj a0++(aj a++(aj a2++(aj a3)))).map .d) 0 33 ((aj x).map .d)=some ((aj x++(aj a++(aj a2++(aj a3)))).map .d):=cj (B:=aj a0) (B':=aj x) (A:=[]) (C:=(aj a++(aj a2++(aj a3)))) (by simp only[bj,bg,bm]) (by simp only[aR,b6,az]) (az _) (az _) (by simp only[bj,bg,bm])
theorem a4p(a0 a a2 a3 x:af):b8 ((aj a0++(aj a++(aj a2++(aj a3)))).map .d) 33 33 ((aj x).map .d)=some ((aj a0++(aj x++(aj a2++(aj a3)))).map .d):=cj (B:=aj a) (B':=aj x) (A:=(aj a0)) (C:=(aj a2++(aj a3))) (by simp only[bj,bg,bm]) (by simp only[aR,b6,az]) (az _) (az _) (by simp only[bj,bg,bm])
theorem a4q(a0 a a2 a3 x:af):b8 ((aj a0++(aj a++(aj a2++(aj a3)))).map .d) 66 33 ((aj x).map .d)=some ((aj a0++(aj a++(aj x++(aj a3)))).map .d):=cj (B:=aj a2) (B':=aj x) (A:=(aj a0++(aj a))) (C:=(aj a3)) (by simp only[bj,bg,bm]) (by simp only[aR,b6,az]) (az _) (az _) (by simp only[bj,bg,bm])
theorem a4r(a0 a a2 a3 x:af):b8 ((aj a0++(aj a++(aj a2++(aj a3)))).map .d) 99 33 ((aj x).map .d)=some ((aj a0++(aj a++(aj a2++(aj x)))).map .d):=cj (B:=aj a3) (B':=aj x) (A:=(aj a0++(aj a++(aj a2)))) (C:=[]) (by simp only[bj,bg,bm]) (by simp only[aR,b6,az]) (az _) (az _) (by simp only[bj,bg,bm])
def fR:List AV:=(ak .zero).map .d
theorem a4u(a0 x:Sx):b8 ((ak a0).map .d) 0 3 ((ak x).map .d)=some ((ak x).map .d):=cj (B:=ak a0) (B':=ak x) (A:=[]) (C:=[]) (by simp only[bj,bg,bm]) (by simp only[aR,b6,cq]) (cq _) (cq _) (by simp only[bj,bg,bm])
def vZ:List AV:=(ak .zero++(ak .zero)).map .d
theorem a4v(a0 a x:Sx):b8 ((ak a0++(ak a)).map .d) 0 3 ((ak x).map .d)=some ((ak x++(ak a)).map .d):=cj (B:=ak a0) (B':=ak x) (A:=[]) (C:=(ak a)) (by simp only[bj,bg,bm]) (by simp only[aR,b6,cq]) (cq _) (cq _) (by simp only[bj,bg,bm])
theorem a4w(a0 a x:Sx):b8 ((ak a0++(ak a)).map .d) 3 3 ((ak x).map .d)=some ((ak a0++(ak x)).map .d):=cj (B:=ak a) (B':=ak x) (A:=(ak a0)) (C:=[]) (by simp only[bj,bg,bm]) (by simp only[aR,b6,cq]) (cq _) (cq _) (by simp only[bj,bg,bm])
def HR:List AV:=(ak .zero++(ak .zero++(ak .zero))).map .d
theorem a4x(a0 a a2 x:Sx):b8 ((ak a0++(ak a++(ak a2))).map .d) 0 3 ((ak x).map .d)=some ((ak x++(ak a++(ak a2))).map .d):=cj (B:=ak a0) (B':=ak x) (A:=[]) (C:=(ak a++(ak a2))) (by simp only[bj,bg,bm]) (by simp only[aR,b6,cq]) (cq _) (cq _) (by simp only[bj,bg,bm])
theorem a4y(a0 a a2 x:Sx):b8 ((ak a0++(ak a++(ak a2))).map .d) 3 3 ((ak x).map .d)=some ((ak a0++(ak x++(ak a2))).map .d):=cj (B:=ak a) (B':=ak x) (A:=(ak a0)) (C:=(ak a2)) (by simp only[bj,bg,bm]) (by simp only[aR,b6,cq]) (cq _) (cq _) (by simp only[bj,bg,bm])
theorem a4z(a0 a a2 x:Sx):b8 ((ak a0++(ak a++(ak a2))).map .d) 6 3 ((ak x).map .d)=some ((ak a0++(ak a++(ak x))).map .d):=cj (B:=ak a2) (B':=ak x) (A:=(ak a0++(ak a))) (C:=[]) (by simp only[bj,bg,bm]) (by simp only[aR,b6,cq]) (cq _) (cq _) (by simp only[bj,bg,bm])
def ED:List AV:=(ak .zero++(ak .zero++(ak .zero++(ak .zero)))).map .d
theorem a4A(a0 a a2 a3 x:Sx):b8 ((ak a0++(ak a++(ak a2++(ak a3)))).map .d) 0 3 ((ak x).map .d)=some ((ak x++(ak a++(ak a2++(ak a3)))).map .d):=cj (B:=ak a0) (B':=ak x) (A:=[]) (C:=(ak a++(ak a2++(ak a3)))) (by simp only[bj,bg,bm]) (by simp only[aR,b6,cq]) (cq _) (cq _) (by simp only[bj,bg,bm])
theorem a4B(a0 a a2 a3 x:Sx):b8 ((ak a0++(ak a++(ak a2++(ak a3)))).map .d) 3 3 ((ak x).map .d)=some ((ak a0++(ak x++(ak a2++(ak a3)))).map .d):=cj (B:=ak a) (B':=ak x) (A:=(ak a0)) (C:=(ak a2++(ak a3))) (by simp only[bj,bg,bm]) (by simp only[aR,b6,cq]) (cq _) (cq _) (by simp only[bj,bg,bm])
theorem a4C(a0 a a2 a3 x:Sx):b8 ((ak a0++(ak a++(ak a2++(ak a3)))).map .d) 6 3 ((ak x).map .d)=some ((ak a0++(ak a++(ak x++(ak a3)))).map .d):=cj (B:=ak a2) (B':=ak x) (A:=(ak a0++(ak a))) (C:=(ak a3)) (by simp only[bj,bg,bm]) (by simp only[aR,b6,cq]) (cq _) (cq _) (by simp only[bj,bg,bm])
theorem a4D(a0 a a2 a3 x:Sx):b8 ((ak a0++(ak a++(ak a2++(ak a3)))).map .d) 9 3 ((ak x).map .d)=some ((ak a0++(ak a++(ak a2++(ak x)))).map .d):=cj (B:=ak a3) (B':=ak x) (A:=(ak a0++(ak a++(ak a2)))) (C:=[]) (by simp only[bj,bg,bm]) (by simp only[aR,b6,cq]) (cq _) (cq _) (by simp only[bj,bg,bm])
def HS:List AV:=(ak .zero++(ak .zero++(ak .zero++(ak .zero++(ak .zero++(ak .zero)))))).map .d
theorem a4E(a0 a a2 a3 a4 a5 x:Sx):b8 ((ak a0++(ak a++(ak a2++(ak a3++(ak a4++(ak a5)))))).map .d) 0 3 ((ak x).map .d)=some ((ak x++(ak a++(ak a2++(ak a3++(ak a4++(ak a5)))))).map .d):=cj (B:=ak a0) (B':=ak x) (A:=[]) (C:=(ak a++(ak a2++(ak a3++(ak a4++(ak a5)))))) (by simp only[bj,bg,bm]) (by simp only[aR,b6,cq]) (cq _) (cq _) (by simp only[bj,bg,bm])
theorem a4F(a0 a a2 a3 a4 a5 x:Sx):b8 ((ak a0++(ak a++(ak a2++(ak a3++(ak a4++(ak a5)))))).map .d) 3 3 ((ak x).map .d)=some ((ak a0++(ak x++(ak a2++(ak a3++(ak a4++(ak a5)))))).map .d):=cj (B:=ak a) (B':=ak x) (A:=(ak a0)) (C:=(ak a2++(ak a3++(ak a4++(ak a5))))) (by simp only[bj,bg,bm]) (by simp only[aR,b6,cq]) (cq _) (cq _) (by simp only[bj,bg,bm])
theorem a4G(a0 a a2 a3 a4 a5 x:Sx):b8 ((ak a0++(ak a++(ak a2++(ak a3++(ak a4++(ak a5)))))).map .d) 6 3 ((ak x).map .d)=some ((ak a0++(ak a++(ak x++(ak a3++(ak a4++(ak a5)))))).map .d):=cj (B:=ak a2) (B':=ak x) (A:=(ak a0++(ak a))) (C:=(ak a3++(ak a4++(ak a5)))) (by simp only[bj,bg,bm]) (by simp only[aR,b6,cq]) (cq _) (cq _) (by simp only[bj,bg,bm])
theorem a4H(a0 a a2 a3 a4 a5 x:Sx):b8 ((ak a0++(ak a++(ak a2++(ak a3++(ak a4++(ak a5)))))).map .d) 9 3 ((ak x).map .d)=some ((ak a0++(ak a++(ak a2++(ak x++(ak a4++(ak a5)))))).map .d):=cj (B:=ak a3) (B':=ak x) (A:=(ak a0++(ak a++(ak a2)))) (C:=(ak a4++(ak a5))) (by simp only[bj,bg,bm]) (by simp only[aR,b6,cq]) (cq _) (cq _) (by simp only[bj,bg,bm])
theorem a4I(a0 a a2 a3 a4 a5 x:Sx):b8 ((ak a0++(ak a++(ak a2++(ak a3++(ak a4++(ak a5)))))).map .d) 12 3 ((ak x).map .d)=some ((ak a0++(ak a++(ak a2++(ak a3++(ak x++(ak a5)))))).map .d):=cj (B:=ak a4) (B':=ak x) (A:=(ak a0++(ak a++(ak a2++(ak a3))))) (C:=(ak a5)) (by simp only[bj,bg,bm]) (by simp only[aR,b6,cq]) (cq _) (cq _) (by simp only[bj,bg,bm])
theorem a4J(a0 a a2 a3 a4 a5 x:Sx):b8 ((ak a0++(ak a++(ak a2++(ak a3++(ak a4++(ak a5)))))).map .d) 15 3 ((ak x).map .d)=some ((ak a0++(ak a++(ak a2++(ak a3++(ak a4++(ak x)))))).map .d):=cj (B:=ak a5) (B':=ak x) (A:=(ak a0++(ak a++(ak a2++(ak a3++(ak a4)))))) (C:=[]) (by simp only[bj,bg,bm]) (by simp only[aR,b6,cq]) (cq _) (cq _) (by simp only[bj,bg,bm])
theorem a2i(x:Sx):b8 ((ak x).map .d) 2 1 [.d (.sl 3 [])]=some ((ak (.mk x.isL x.atom [])).map .d):=rH x []
theorem a2j(x a0:Sx):b8 ((ak x).map .d) 2 1 [.d (.sl 3 [ak a0])]=some ((ak (.mk x.isL x.atom [a0])).map .d):=rH x [a0]
theorem a2k(x a0 a:Sx):b8 ((ak x).map .d) 2 1 [.d (.sl 3 [ak a0,ak a])]=some ((ak (.mk x.isL x.atom [a0,a])).map .d):=rH x [a0,a]
theorem a2l(x a0 a a2:Sx):b8 ((ak x).map .d) 2 1 [.d (.sl 3 [ak a0,ak a,ak a2])]=some ((ak (.mk x.isL x.atom [a0,a,a2])).map .d):=rH x [a0,a,a2]
theorem a2m(x a0 a a2 a3:Sx):b8 ((ak x).map .d) 2 1 [.d (.sl 3 [ak a0,ak a,ak a2,ak a3])]=some ((ak (.mk x.isL x.atom [a0,a,a2,a3])).map .d):=rH x [a0,a,a2,a3]
theorem a2n(x a0 a a2 a3 a4:Sx):b8 ((ak x).map .d) 2 1 [.d (.sl 3 [ak a0,ak a,ak a2,ak a3,ak a4])]=some ((ak (.mk x.isL x.atom [a0,a,a2,a3,a4])).map .d):=rH x [a0,a,a2,a3,a4]
theorem a2o(x a0 a a2 a3 a4 a5:Sx):b8 ((ak x).map .d) 2 1 [.d (.sl 3 [ak a0,ak a,ak a2,ak a3,ak a4,ak a5])]=some ((ak (.mk x.isL x.atom [a0,a,a2,a3,a4,a5])).map .d):=rH x [a0,a,a2,a3,a4,a5]
end Go.Proofs.Q
