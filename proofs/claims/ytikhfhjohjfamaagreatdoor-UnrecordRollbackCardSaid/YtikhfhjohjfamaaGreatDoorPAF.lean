/- Lemmas. -/
import Derived.Test.YtikhfhjohjfamaaGreatDoorPAE
set_option linter.unusedVariables false
set_option linter.unusedSimpArgs false
set_option maxRecDepth 100000
namespace Go.Bb
open Go Go.Ab Go.Proofs.Lg
theorem ai{a b:Prop}(h:a)(k:b):a/\b:=⟨h,k⟩
def NV:=PLift.up (ai (ai (ai (ai (ai (ai (ai (ai @decide_true @NR) (ai @NO (ai @NQ @NL))) (ai (ai @NK (ai @NN @NM)) (ai @NP (ai @NI @Of))))
 (ai (ai (ai @NH (ai @mE.eq_1 @mE.eq_2)) (ai @mE.eq_3 (ai @qQ.eq_1 @CI.sem.eq_1))) (ai (ai @CI.sem.eq_2 (ai @CI.sem.eq_3 @CI.sem.eq_4)) (ai @CI.sem.eq_5 (ai @CI.sem.eq_6
 @CI.sem.eq_7))))) (ai (ai (ai (ai @CI.sem.eq_8 (ai @CI.sem.eq_9 @CI.sem.eq_10)) (ai @CI.sem.eq_11 (ai @CI.sem.eq_12 @CI.sem.eq_13))) (ai (ai @CI.sem.eq_14 (ai @CI.sem.eq_15
 @CI.sem.eq_16)) (ai @CI.sem.eq_17 (ai @CI.sem.eq_18 @CI.sem.eq_19)))) (ai (ai (ai @CI.sem.eq_20 (ai @CI.sem.eq_21 @CI.sem.eq_22)) (ai @CI.sem.eq_23 (ai @CI.sem.eq_24
 @CI.sem.eq_25))) (ai (ai @CI.sem.eq_26 (ai @CI.sem.eq_27 @CI.sem.eq_28)) (ai @CI.sem.eq_29 (ai @CI.sem.eq_30 @CI.sem.eq_31)))))) (ai (ai (ai (ai (ai @CI.sem.eq_32 (ai @CI.sem.eq_33
 @CI.sem.eq_34)) (ai @CI.sem.eq_35 (ai @CI.sem.eq_36 @CI.sem.eq_37))) (ai (ai @CI.sem.eq_38 (ai @CI.sem.eq_39 @CI.sem.eq_40)) (ai @CI.sem.eq_41 (ai @CI.sem.eq_42 @CI.sem.eq_43))))
 (ai (ai (ai @CI.sem.eq_44 (ai @CI.sem.eq_45 @CI.touch.eq_1)) (ai @CI.touch.eq_2 (ai @CI.touch.eq_3 @CI.touch.eq_4))) (ai (ai @CI.touch.eq_5 (ai @CI.touch.eq_6 @CI.touch.eq_7)) (ai
 @CI.touch.eq_8 (ai @CI.touch.eq_9 @CI.touch.eq_10))))) (ai (ai (ai (ai @CI.touch.eq_11 (ai @CI.touch.eq_12 @CI.touch.eq_13)) (ai @CI.touch.eq_14 (ai @CI.touch.eq_15
 @CI.touch.eq_16))) (ai (ai @CI.touch.eq_17 (ai @CI.touch.eq_18 @CI.touch.eq_19)) (ai @CI.touch.eq_20 (ai @nf.eq_1 @nf.eq_2)))) (ai (ai (ai @nf.eq_3 (ai @CI.use.eq_1
 @CI.use.eq_2)) (ai @CI.use.eq_3 (ai @CI.use.eq_4 @CI.use.eq_5))) (ai (ai @CI.use.eq_6 (ai @CI.use.eq_7 @AV.vecId.eq_1)) (ai @AV.vecId.eq_2 (ai @AV.vecId.eq_3 @AV.hdl.eq_1))))))) (ai
 (ai (ai (ai (ai (ai @AV.hdl.eq_2 @AV.hdl.eq_3) (ai @AV.hdl.eq_4 (ai @AV.hdl.eq_5 @AV.hdl.eq_6))) (ai (ai @AV.hdl.eq_7 (ai @ir.eq_1 @X.ev.eq_1)) (ai @X.ev.eq_2 (ai @jN.eq_1
 @jN.eq_2)))) (ai (ai (ai @look.eq_1 (ai @look.eq_2 @dt.eq_1)) (ai @dt.eq_2 (ai @nJ.eq_1 @vb.eq_1))) (ai (ai @ret.eq_1 (ai @AV.bool?.eq_1 @AV.bool?.eq_2)) (ai
 @AV.int?.eq_1 (ai @AV.int?.eq_2 @AV.num?.eq_1))))) (ai (ai (ai (ai @AV.num?.eq_2 (ai @AV.str?.eq_1 @AV.str?.eq_2)) (ai @AV.sc?.eq_1 (ai @AV.sc?.eq_2 @kV.eq_1))) (ai (ai @kV.eq_2
 (ai @kV.eq_3 @slA.eq_1)) (ai @slA.eq_2 (ai @slA.eq_3 @slA.eq_4)))) (ai (ai (ai @slA.eq_5 (ai @pM.eq_1 @pM.eq_2)) (ai @pN.eq_1 (ai @pN.eq_2 @dq.eq_1))) (ai (ai
 @dq.eq_2 (ai @dq.eq_3 @dq.eq_4)) (ai @dq.eq_5 (ai @dq.eq_6 @dq.eq_7)))))) (ai (ai (ai (ai (ai @dq.eq_8 (ai @dq.eq_9 @dq.eq_10)) (ai @dq.eq_11 (ai @dq.eq_12
 @dq.eq_13))) (ai (ai @dq.eq_14 (ai @dq.eq_15 @dq.eq_16)) (ai @dq.eq_17 (ai @dq.eq_18 @dq.eq_19)))) (ai (ai (ai @dq.eq_20 (ai @dq.eq_21 @dq.eq_22)) (ai
 @dq.eq_23 (ai @dq.eq_24 @dq.eq_25))) (ai (ai @lF.eq_1 (ai @lF.eq_2 @kU.eq_1)) (ai @kU.eq_2 (ai @kU.eq_3 @kU.eq_4))))) (ai (ai (ai (ai @nC.eq_1 (ai @nC.eq_2
 @nC.eq_3)) (ai @nC.eq_4 (ai @qo.eq_1 @qo.eq_2))) (ai (ai @qo.eq_3 (ai @qo.eq_4 @tA.eq_1)) (ai @tA.eq_2 (ai @tA.eq_3 @gr.eq_1)))) (ai (ai (ai
 @gr.eq_2 (ai @gr.eq_3 @gr.eq_4)) (ai @gr.eq_5 (ai @gr.eq_6 @gr.eq_7))) (ai (ai @gr.eq_8 (ai @gr.eq_9 @gr.eq_10)) (ai @gr.eq_11 (ai @nD.eq_1
 @nD.eq_2)))))))) (ai (ai (ai (ai (ai (ai (ai @nD.eq_3 @nD.eq_4) (ai @nD.eq_5 (ai @qp.eq_1 @qp.eq_2))) (ai (ai @qp.eq_3 (ai @qp.eq_4 @rH.eq_1)) (ai
 @rH.eq_2 (ai @rH.eq_3 @lU.eq_1)))) (ai (ai (ai @qj.eq_1 (ai @qj.eq_2 @wN.eq_1)) (ai @wN.eq_2 (ai @nV.eq_1 @nV.eq_2))) (ai (ai @gY.eq_1 (ai @gY.eq_2
 @rp.eq_1)) (ai @rp.eq_2 (ai @sO.eq_1 @sO.eq_2))))) (ai (ai (ai (ai @mA.eq_1 (ai @mA.eq_2 @sn.eq_1)) (ai @wB.eq_1 (ai @iX.eq_1 @iX.eq_2))) (ai (ai @iX.eq_3 (ai
 @iX.eq_4 @putCells.eq_1)) (ai @z6.eq_1 (ai @pr.eq_1 @pr.eq_2)))) (ai (ai (ai @pr.eq_3 (ai @jD.eq_1 @jD.eq_2)) (ai @jD.eq_3 (ai @jD.eq_4
 @jD.eq_5))) (ai (ai @jD.eq_6 (ai @zx.eq_1 @zy.eq_1)) (ai @pq.eq_1 (ai @pq.eq_2 @gU.eq_1)))))) (ai (ai (ai (ai (ai @gU.eq_2 (ai @pw.eq_1 @pw.eq_2))
 (ai @pS.eq_1 (ai @pS.eq_2 @nI.eq_1))) (ai (ai @nI.eq_2 (ai @gg.eq_1 @gg.eq_2)) (ai @ma.eq_1 (ai @ma.eq_2 @lv.eq_1)))) (ai (ai (ai @lv.eq_2 (ai
 @lv.eq_3 @wW.eq_1)) (ai @rL.eq_1 (ai @rL.eq_2 @uO.eq_1))) (ai (ai @uO.eq_2 (ai @zJ.eq_1 @zJ.eq_2)) (ai @bE.eq_1 (ai @bE.eq_2 @bE.eq_3))))) (ai (ai
 (ai (ai @bE.eq_4 (ai @bE.eq_5 @bE.eq_6)) (ai @bE.eq_7 (ai @bE.eq_8 @dw.eq_1))) (ai (ai @dw.eq_2 (ai @chunk.eq_1 @chunk.eq_2)) (ai @AV.toD.eq_1 (ai @AV.toD.eq_2
 @AV.toL.eq_1)))) (ai (ai (ai @AV.toL.eq_2 (ai @AV.toL.eq_3 @AV.toL.eq_4)) (ai @AV.toL.eq_5 (ai @toLs.eq_1 @toLs.eq_2))) (ai (ai @AV.cells.eq_1 (ai @AV.cells.eq_2 @AV.cells.eq_3))
 (ai @AV.row.eq_1 (ai @AV.row.eq_2 @AV.row.eq_3))))))) (ai (ai (ai (ai (ai (ai @AV.leaf.eq_1 (ai @AV.leaf.eq_2 @AV.leaf.eq_3)) (ai @AV.leaf.eq_4 (ai @D.leaf.eq_1 @D.leaf.eq_2))) (ai
 (ai @D.leaf.eq_3 (ai @D.leaf.eq_4 @D.leaf.eq_5)) (ai @Go.Value.oneCell'.eq_1 (ai @Go.Value.oneCell'.eq_2 @Go.Value.oneCell'.eq_3)))) (ai (ai (ai @jK.eq_1 (ai @jK.eq_2
 @bX.{0,0})) (ai @fi.{0,0} (ai @eY.{0,0} @qR.{0,0}))) (ai (ai @eE.{0,0} (ai @Option.bind_none.{0,0}
 @eF.{0})) (ai @jY.{0} (ai @nS.{0} @kA.{0}))))) (ai (ai (ai (ai @false_implies (ai @true_implies @and_true)) (ai @true_and
 (ai @and_self @if_true.{1}))) (ai (ai @if_false.{1} (ai @List.set_cons_zero.{0} @List.set_cons_succ.{0})) (ai @aY.{0} (ai @bc.{0}
 @vy.{0})))) (ai (ai (ai @List.reverse_nil.{0} (ai @bt.{0} @gb.{0})) (ai @jW.{0} (ai @tW.{0}
 @List.drop_succ_cons.{0}))) (ai (ai @ky.{0} (ai @Hk @Hj)) (ai @Bool.not_true (ai @Bool.not_false @Bool.true_and)))))) (ai (ai (ai (ai (ai @Bool.and_true (ai
 @Bool.false_and @Bool.and_false)) (ai @Bool.not_not (ai @Bool.false_bne @Bool.true_bne))) (ai (ai @aM.{0,0} (ai @fY @Int.natCast_nonneg)) (ai
 @dj.{0,0} (ai @eq_self.{1} @lz.eq_1)))) (ai (ai (ai @lz.eq_2 (ai @List.getElem?_cons_zero.{0} @List.getElem?_cons_succ.{0})) (ai @aQ.{0} (ai
 @xM.{0} @D.sc.injEq))) (ai (ai @Go.Value.bool.injEq (ai @AV.d.injEq @Go.Value.int.injEq)) (ai @D.sl.injEq (ai @exists_eq_left'.{1} @exists_eq_left.{1}))))) (ai (ai
 (ai (ai @Bool.false_or (ai @Bool.true_or @Option.isNone_some.{0})) (ai @Option.isNone_none.{0} (ai @CI.mark.eq_1 @CI.wr.eq_1))) (ai (ai @CI.wr.eq_2 (ai @CI.wr.eq_3 @CI.wr.eq_4)) (ai
 @CI.wr.eq_5 (ai @CI.wr.eq_6 @CI.wr.eq_7)))) (ai (ai (ai @AV.rowId.eq_1 (ai @AV.rowId.eq_2 @AV.rowId.eq_3)) (ai @AV.rowId.eq_4 (ai @sP.eq_1 @o0.eq_1))) (ai (ai @om.eq_1 (ai
 @og.eq_1 @oh.eq_1)) (ai @oN.eq_1 (ai @xi.eq_1 @fo.eq_1)))))))))
theorem wx:type_of% NV.down:=NV.down
def NG:=PLift.up (ai (ai (ai @RY @RZ) (ai @YG @YH)) (ai (ai @bk.{0} @a0B) (ai @l9 (ai @qL.{0} @aw))))
theorem wj:type_of% NG.down:=NG.down
end Go.Bb
namespace Go.Bb
open Go Go.RowKit Go.Ab Go.Proofs.Lg
theorem bN{n:Int}{m:Nat}(h:n=m)(hm:m<9223372036854775808):Go.IntKind.i64.wrap n=(m:Int):=by
 subst h;simp only[Go.IntKind.wrap,Go.IntKind.bits,Go.IntKind.signed];have:((m:Int) % 2^64)=m:=by omega
 simp only[this];simp;omega
def dO(P:Program)(l:List CO)(K:Fr->List aa->List Nat->Prop)(a:List Nat)(fr:Fr)(dst:Option Nat)(m:Nat)(b:List aa)(d:AV):Prop:=cW P l K (m::a) (dt fr dst d) b
def xP(P:Program)(l:List CO)(K:Fr->List aa->List Nat->Prop)(a:List Nat)(fr:Fr)(dst:Option Nat)(m:Nat):Option (AV×List aa)->Prop
 |some (d,s')=>dO P l K a fr dst m s' d
 |none=>False
def xt(P:Program)(l:List CO)(K:Fr->List aa->List Nat->Prop)(a:List Nat)(fr:Fr)(dst:Option Nat)(s:List aa):Option AV->Option (List AV)->Prop
 |some cv,some vs=>af P cv vs s (tO P l K a fr dst)
 |_,_=>False
def tR(P:Program)(ci:CI)(dst:Option Nat)(l:List CO)(K:Fr->List aa->List Nat->Prop)(a:List Nat)(fr:Fr)(s:List aa):Prop:=match ci with
 | .call c xs=>xt P l K a fr dst s (pS fr c) (jN fr xs)
 |ci=>xP P l K a fr dst (ci.mark fr) (ci.sem fr s)
def pF(P:Program)(ci:CI)(dst:Option Nat)(l:List CO)(K:Fr->List aa->List Nat->Prop)(a:List Nat)(fr:Fr)(s:List aa):Option Bool->Prop
 |some b=>nM b (dO P l K a fr dst 0 s nJ) (tR P ci dst l K a fr s)
 |none=>False
def oE(P:Program)(rd:Option Nat)(a b:CC)(Q:Exit->Fr->List aa->Prop)(fr:Fr)(s:List aa):Option Bool->Prop
 |some v=>nM v (cy P rd b Q fr s) (cy P rd a Q fr s)
 |none=>False
section
variable {P:Program} {rd:Option Nat} {Q:Exit->Fr->List aa->Prop} {l:List CO} {K:Fr->List aa->List Nat->Prop} {acc:List Nat} {fr fr':Fr} {s s':List aa} {dst:Option Nat} {ci:CI} {m:Nat} {c:CC}
@[congr] theorem a0M {o o':Option (AV×List aa)} (h:o=o'):xP P l K acc fr dst m o=xP P l K acc fr dst m o':=by rw[h]
@[congr] theorem a0L {d a:AV} (h:d=a):dO P l K acc fr dst m s d=dO P l K acc fr dst m s a:=by rw[h]
@[congr] theorem a0C {o o':Option AV} {u a:Option (List AV)} (h:o=o') (b:u=a):xt P l K acc fr dst s o u=xt P l K acc fr dst s o' a:=by rw[h,b]
@[congr] theorem a0H {o o':Option Bool} (h:o=o'):pF P ci dst l K acc fr s o=pF P ci dst l K acc fr s o':=by rw[h]
@[congr] theorem a0G {a b:CC} {o o':Option Bool} (h:o=o'):oE P rd a b Q fr s o=oE P rd a b Q fr s o':=by rw[h]
@[congr] theorem a0I (h:s=s'):tR P ci dst l K acc fr s=tR P ci dst l K acc fr s':=by rw[h]
@[congr] theorem a08 (h:s=s'):cW P l K acc fr s=cW P l K acc fr s':=by rw[h]
@[congr] theorem a09 (a:fr=fr') (h:s=s'):cy P rd c Q fr s=cy P rd c Q fr' s':=by rw[a,h]
@[congr] theorem a0J (h:s=s'):aZ P rd c Q fr s=aZ P rd c Q fr s':=by rw[h]
@[congr] theorem a0E {a:AV} {vs:List AV} {k:AV->List aa->Nat->Prop} (h:s=s'):af P a vs s k=af P a vs s' k:=by rw[h]
@[congr] theorem a0F {d a:AV} {b:Nat} (h:s=s') (c:d=a):tO P l K acc fr dst d s b=tO P l K acc fr dst a s' b:=by rw[h,c]
end
section
variable (P:Program) (rd:Option Nat) (Q:Exit->Fr->List aa->Prop) (l:List CO) (K:Fr->List aa->List Nat->Prop) (acc:List Nat) (fr:Fr) (s s':List aa) (dst:Option Nat) (ci:CI) (m:Nat) (t:Nat)
theorem NJ(g:Option (Option Nat×Bool)):cW P (⟨dst,g,ci⟩::l) K acc fr s=pF P ci dst l K acc fr s (mE fr g):=by
 rw[NH];cases h:mE fr g with
 |none=>simp only[h,pF]
 |some b=>
  simp only[h,pF,tR,dO];refine congrArg _ ?_;cases ci with
  |call c xs=>cases d:pS fr c<;>cases e:jN fr xs<;>rfl
  |_=>first|rfl|(split<;>rename_i a<;>rw[a]<;>rfl)
theorem GJ:pF P ci dst l K acc fr s (some true)=tR P ci dst l K acc fr s:=by simp only[pF,GF]
theorem Oq:pF P ci dst l K acc fr s (some false)=dO P l K acc fr dst 0 s nJ:=by simp only[pF,GD]
theorem ZU:cW P (⟨dst,none,ci⟩::l) K acc fr s=tR P ci dst l K acc fr s:=by rw[NJ];exact GJ ..
theorem ZT(g:Option Nat×Bool):cW P (⟨dst,some g,ci⟩::l) K acc fr s=pF P ci dst l K acc fr s (mE fr (some g)):=NJ ..
theorem Ov:tR P ci dst l K acc fr s=match ci with
 | .call c xs=>xt P l K acc fr dst s (pS fr c) (jN fr xs)
 |ci=>xP P l K acc fr dst (ci.mark fr) (ci.sem fr s):=propext dK
theorem P9(d:AV):xP P l K acc fr dst m (some (d,s'))=dO P l K acc fr dst m s' d:=propext dK
theorem Oe(c:AV)(vs:List AV):xt P l K acc fr dst s (some c) (some vs)=af P c vs s (tO P l K acc fr dst):=propext dK
theorem ZV(c:X)(a b:CC):cy P rd (.cond c a b) Q fr s=oE P rd a b Q fr s ((c.ev fr).bind AV.bool?):=by
 rw[NL];cases h:(c.ev fr).bind AV.bool? <;>simp only[h,oE]
theorem On(a b:CC):oE P rd a b Q fr s (some true)=cy P rd a Q fr s:=by simp only[oE,GF]
theorem Om(a b:CC):oE P rd a b Q fr s (some false)=cy P rd b Q fr s:=by simp only[oE,GD]
theorem OK(d:AV):dO P l K acc fr none m s d=cW P l K (m::acc) fr s:=propext dK
theorem OC(d:AV):dO P l K acc fr (some t) m s d=cW P l K (m::acc) ((t,d)::fr) s:=propext dK
theorem Oz:dO P l K acc fr (some t) m s (.d (.sc (.bool true)))=cW P l K (m::acc) ((t,.d (.sc (.bool true)))::fr) s:=propext dK
theorem Oy:dO P l K acc fr (some t) m s (.d (.sc (.bool false)))=cW P l K (m::acc) ((t,.d (.sc (.bool false)))::fr) s:=propext dK
theorem OF(k:IntKind)(n:Int):dO P l K acc fr (some t) m s (.d (.sc (.int k n)))=cW P l K (m::acc) ((t,.d (.sc (.int k n)))::fr) s:=propext dK
theorem ON(b:ByteArray):dO P l K acc fr (some t) m s (.d (.sc (.string b)))=cW P l K (m::acc) ((t,.d (.sc (.string b)))::fr) s:=propext dK
theorem OP(b:Array Value):dO P l K acc fr (some t) m s (.d (.sc (.tuple b)))=cW P l K (m::acc) ((t,.d (.sc (.tuple b)))::fr) s:=propext dK
theorem OG(b:Option Nat):dO P l K acc fr (some t) m s (.d (.sc (.map b)))=cW P l K (m::acc) ((t,.d (.sc (.map b)))::fr) s:=propext dK
theorem OA(cs:List D):dO P l K acc fr (some t) m s (.d (.agg cs))=cW P l K (m::acc) ((t,.d (.agg cs))::fr) s:=propext dK
theorem OO(n:Nat)(cs:List (List D)):dO P l K acc fr (some t) m s (.d (.sl n cs))=cW P l K (m::acc) ((t,.d (.sl n cs))::fr) s:=propext dK
theorem OM(cs:List D):dO P l K acc fr (some t) m s (.d (.ref cs))=cW P l K (m::acc) ((t,.d (.ref cs))::fr) s:=propext dK
theorem OR(cs:List D):dO P l K acc fr (some t) m s (.d (.tup cs))=cW P l K (m::acc) ((t,.d (.tup cs))::fr) s:=propext dK
theorem OQ(id sz:Nat)(rows:List (List D)):dO P l K acc fr (some t) m s (.tsl id sz rows)=cW P l K (m::acc) ((t,.tsl id sz rows)::fr) s:=propext dK
theorem OJ(sz:Nat):dO P l K acc fr (some t) m s (.nil sz)=cW P l K (m::acc) ((t,.nil sz)::fr) s:=propext dK
theorem OE(sz:Nat):dO P l K acc fr (some t) m s (.emp sz)=cW P l K (m::acc) ((t,.emp sz)::fr) s:=propext dK
theorem OL(a b:Nat):dO P l K acc fr (some t) m s (.ptr a b)=cW P l K (m::acc) ((t,.ptr a b)::fr) s:=propext dK
theorem OU(a b c:Nat):dO P l K acc fr (some t) m s (.vec a b c)=cW P l K (m::acc) ((t,.vec a b c)::fr) s:=propext dK
theorem OV(a b c:Nat):dO P l K acc fr (some t) m s (.vptr a b c)=cW P l K (m::acc) ((t,.vptr a b c)::fr) s:=propext dK
theorem OX(a b c e:Nat):dO P l K acc fr (some t) m s (.win a b c e)=cW P l K (m::acc) ((t,.win a b c e)::fr) s:=propext dK
theorem OW(a b c e f:Nat):dO P l K acc fr (some t) m s (.vwn a b c e f)=cW P l K (m::acc) ((t,.vwn a b c e f)::fr) s:=propext dK
theorem OH(a:Nat):dO P l K acc fr (some t) m s (.mp a)=cW P l K (m::acc) ((t,.mp a)::fr) s:=propext dK
theorem OY(a:Nat):dO P l K acc fr (some t) m s (.yld a)=cW P l K (m::acc) ((t,.yld a)::fr) s:=propext dK
theorem OD(f:FuncId)(a b:List AV):dO P l K acc fr (some t) m s (.clo f a b)=cW P l K (m::acc) ((t,.clo f a b)::fr) s:=propext dK
theorem OB(a:List AV):dO P l K acc fr (some t) m s (.agg a)=cW P l K (m::acc) ((t,.agg a)::fr) s:=propext dK
theorem OT(a:List AV):dO P l K acc fr (some t) m s (.tup a)=cW P l K (m::acc) ((t,.tup a)::fr) s:=propext dK
theorem Og(d:AV)(a:Nat):tO P l K acc fr dst d s a=dO P l K acc fr dst a s d:=propext dK
end
theorem Ow(a:List Nat)(Q:Exit->Fr->List aa->Prop)(fr:Fr)(s:List aa)(b:List Nat):qQ false a Q fr s b=Q .normal fr s:=propext ⟨λh=>h.2,λh=>⟨λe=>(nomatch e),h⟩⟩
theorem Ad{a:List Nat}{Q:Exit->Fr->List aa->Prop}{fr:Fr}{s:List aa}{b:List Nat}(h:uH a b=true)(k:Q .normal fr s):qQ true a Q fr s b:=⟨λ_=>h,k⟩
@[congr] theorem a0K {b:Bool} {a:List Nat} {Q:Exit->Fr->List aa->Prop} {fr:Fr} {s d:List aa} {c:List Nat} (h:s=d):qQ b a Q fr s c=qQ b a Q fr d c:=by rw[h]
theorem natLit(n:Nat):((no_index (OfNat.ofNat n):Nat):Int)=OfNat.ofNat n:=rfl
theorem dO.both{P:Program}{l:List CO}{K:Fr->List aa->List Nat->Prop}{a:List Nat}{fr:Fr}{t m:Nat}{s:List aa}{v:Bool}(b:v=true->cW P l K (m::a) ((t,.d (.sc (.bool true)))::fr) s)(h0:v=false->cW P l K (m::a) ((t,.d (.sc (.bool false)))::fr) s):dO P l K a fr (some t) m s (.d (.sc (.bool v))):=by
 cases v with
 |true=>exact b rfl
 |false=>exact h0 rfl
theorem dO.dec{P:Program}{l:List CO}{K:Fr->List aa->List Nat->Prop}{a:List Nat}{fr:Fr}{t m:Nat}{s:List aa}{p:Prop}[Decidable p](b:p->cW P l K (m::a) ((t,.d (.sc (.bool true)))::fr) s)(h0: ¬p->cW P l K (m::a) ((t,.d (.sc (.bool false)))::fr) s):dO P l K a fr (some t) m s (.d (.sc (.bool (decide p)))):=by
 by_cases h:p
 .rw[decide_eq_true h];exact b h
 .rw[decide_eq_false h];exact h0 h
theorem dO.ndec{P:Program}{l:List CO}{K:Fr->List aa->List Nat->Prop}{a:List Nat}{fr:Fr}{t m:Nat}{s:List aa}{p:Prop}[Decidable p](b: ¬p->cW P l K (m::a) ((t,.d (.sc (.bool true)))::fr) s)(h0:p->cW P l K (m::a) ((t,.d (.sc (.bool false)))::fr) s):dO P l K a fr (some t) m s (.d (.sc (.bool (!decide p)))):=by
 by_cases h:p
 .rw[decide_eq_true h];exact h0 h
 .rw[decide_eq_false h];exact b h
theorem oE.both{P:Program}{rd:Option Nat}{a b:CC}{Q:Exit->Fr->List aa->Prop}{fr:Fr}{s:List aa}{v:Bool}(c:v=true->cy P rd a Q fr s)(h0:v=false->cy P rd b Q fr s):oE P rd a b Q fr s (some v):=⟨h0,c⟩
theorem ZW(P:Program)(rd:Option Nat)(keep:List Nat)(c:CC)(Q:Exit->Fr->List aa->Prop)(fr:Fr)(s:List aa):cy P rd (.trim keep c) Q fr s=cy P rd c Q (eQ keep fr) s:=propext dK
def xT:X:= .c (.d (.sc (.bool true)))
def xF:X:= .c (.d (.sc (.bool false)))
theorem Yo(fr:Fr):eQ [] fr=[]:=rfl
theorem zq(t:Nat)(l:List Nat)(fr:Fr):eQ (t::l) fr=match look fr t with
  |some x=>(t,x)::eQ l fr
  |none=>eQ l fr:=by
 unfold eQ;rw[List.filterMap_cons];cases look fr t<;>rfl
theorem BK: ∀(keep:List Nat) (fr:Fr) (t:Nat),t∈keep->look (eQ keep fr) t=look fr t
 |[],_,_,h=>by cases h
 |u::l,fr,t,h=>by
  rw[zq];by_cases e:u=t
  .subst e;cases a:look fr u with
   |some x=>simp[look]
   |none=>
    by_cases hm:u∈l
    .rw[BK l fr u hm,a]
    .simp only[];cases hk:look (eQ l fr) u with
     |none=>rfl
     |some y=>have:=Cn l fr u y hk;rw[a]at this;cases this
  .have hm:t∈l:=by cases h with
    |head=>exact absurd rfl e
    |tail _ h=>exact h
   cases a:look fr u with
   |some x=>simp only[look,if_neg e];exact BK l fr t hm
   |none=>exact BK l fr t hm
theorem Mh: ∀{keep:List Nat} {fr fr':Fr},(∀t∈keep,look fr t=look fr' t)->eQ keep fr=eQ keep fr'
 |[],_,_,_=>rfl
 |t::l,fr,fr',h=>by
  rw[zq,zq,h t (by simp),Mh (λu a=>h u (by simp[a]))]
theorem Mi(keep:List Nat)(fr:Fr):eQ keep (eQ keep fr)=eQ keep fr:=Mh λt h=>BK keep fr t h
def jJ:List Nat->Fr->Fr->Prop
 |[],_,_=>True
 |t::l,fr,fr'=>SameO (look fr t) (look fr' t)/\jJ l fr fr'
where SameO:Option AV->Option AV->Prop
 |some x,o=>o=some x
 |none,_=>True
theorem jJ.sub: ∀{keep:List Nat} {fr fr':Fr},jJ keep fr fr'->Sub (eQ keep fr) fr'
 |[],_,fr',_=>Sub.nil fr'
 |t::l,fr,fr',h=>by
  obtain⟨a,b⟩:=h;rw[zq];cases c:look fr t with
  |none=>exact b.sub
  |some x=>rw[c]at a;exact Sub.cons a b.sub
theorem Sub.trans{a b c:Fr}(h:Sub a b)(k:Sub b c):Sub a c:=λt x d=>k t x (h t x d)
theorem aZ.tr{P:Program}{rd:Option Nat}{keep:List Nat}{c:CC}{Q:Exit->Fr->List aa->Prop}{fr fr0:Fr}{s:List aa}{β:Type}(F:β->Fr)(S:β->List aa)(I:Nat->β->Prop)(m:Nat)(b:β)(p:eQ keep fr=fr0)(h0:jJ keep (F b++fr0) fr0)(o:s=S b)(n:I m b)
  (h: ∀m b,I m b->cy P rd c (gg (λfr' g=> ∃d a,d<m/\jJ keep (F a++fr0) fr'/\g=S a/\I d a) Q) (eQ keep (F b++fr0)) (S b)):aZ P rd (.trim keep c) Q fr s:=by
 refine aZ.intro (λm fr s=> ∃b,fr=eQ keep (F b++fr0)/\s=S b/\I m b) m (eQ keep (F b++fr0)) (h0.sub.trans (by rw[<-p];exact Cn keep fr)) ⟨b,rfl,o,n⟩ ?_;rintro m _ _ ⟨b,rfl,rfl,hi⟩;show cy P rd c _ (eQ keep (eQ keep (F b++fr0))) (S b);rw[Mi];refine mY (h m b hi) λe fr' g f=> ?_;cases e with
 |normal=>obtain⟨d,a,i,j,k,l⟩:=f;exact⟨d,_,i,j.sub,a,rfl,k,l⟩
 |_=>exact f
theorem aZ.over{P:Program}{rd:Option Nat}{keep:List Nat}{c:CC}{Q:Exit->Fr->List aa->Prop}{fr fr0:Fr}{s:List aa}{α β γ:Type}(l:List α)(F:Nat->β->Fr)(S:Nat->β->List aa)(g:List α->β->γ)(R:γ)(b:β)(t:l.length<=9223372036854775807)
  (r:eQ keep fr=fr0) (h0:jJ keep (F 0 b++fr0) fr0) (q:s=S 0 b) (p:R=g l b)
  (h: ∀k b y,l[k]?=some y->k<l.length->decide ((k:Int)<(l.length:Int))=true->IntKind.i64.wrap ((k:Int)+1)=((k+1:Nat):Int)->R=g (y::l.drop (k+1)) b->
   cy P rd c (gg (λfr' i=> ∃d,jJ keep (F (k+1) d++fr0) fr'/\i=S (k+1) d/\R=g (l.drop (k+1)) d) Q) (eQ keep (F k b++fr0)) (S k b))
  (a: ∀b,decide ((l.length:Int)<(l.length:Int))=false->R=g [] b->cy P rd c (gg (λ_ _=>False) Q) (eQ keep (F l.length b++fr0)) (S l.length b)):aZ P rd (.trim keep c) Q fr s:=by
 refine aZ.tr (λb:Nat×β=>F b.1 b.2) (λb=>S b.1 b.2) (λm b=>m+b.1=l.length/\R=g (l.drop b.1) b.2) l.length (0,b) r h0 q ⟨rfl,p⟩ ?_;rintro m ⟨k,b⟩ ⟨hm,hi⟩;dsimp only at hm hi⊢;by_cases hk:k<l.length
 .have hg:l[k]?=some l[k]:=bQ hk;rw[lh hk]at hi;refine mY (h k b _ hg hk (by simpa using hk) (bN a8 a8) hi) λe fr' i f=> ?_;cases e with
  |normal=>obtain⟨d,j,n,o⟩:=f;exact⟨m-1,(k+1,d),by omega,j,n,by dsimp only;omega,o⟩
  |_=>exact f
 .obtain rfl:k=l.length:=by omega
  rw[vp]at hi;refine mY (a b (by simp) hi) λe fr' i f=> ?_;cases e with
  |normal=>exact f.elim
  |_=>exact f
def ba(cs:List AV)(off m:Nat)(vs:List AV):Option (List AV):=if vs.length=m/\off+m<=cs.length then some (cs.take off++vs++cs.drop (off+m))else none
theorem Vl(s:List aa)(id off m:Nat)(vs cs:List AV):putCells s id off m vs cs=(ba cs off m vs).map λa=>(vb,s.set id (.cells a)):=by
 unfold putCells ba;split<;>rfl
theorem Ru(fr:Fr)(cs:List AV)(off size:Nat)(x:X)(ps:List (Nat×Nat×X)):lF fr cs ((off,size,x)::ps)=((x.ev fr).bind AV.cells).bind λvs=>(ba cs off size vs).bind λa=>lF fr a ps:=by
 show(((x.ev fr).bind AV.cells).bind λvs=>if vs.length=size/\off+size<=cs.length then lF fr (cs.take off++vs++cs.drop (off+size)) ps else none)=_;congr 1;funext vs;unfold ba;split<;>rfl
theorem iE{l:List AV}{n:Nat}{vs:List AV}(h:l.length=n)(a:vs.length=n):ba l 0 n vs=some vs:=by
 unfold ba;rw[if_pos ⟨a,by omega⟩,aw,tW,bt,iM a8,bq]
theorem iD{α:Type}{l A C:List α}{b:α}{o:Nat}(h:l=A++([b]++C))(a:A.length=o):l[o]?=some b:=by subst h;subst a;simp
theorem qe{α:Type}{l A B C:List α}{o m:Nat}(h:l=A++(B++C))(a:A.length=o)(b:B.length=m):(l.drop o).take m=B:=by subst h;subst a;subst b;simp
theorem EN{α:Type}{l A B C:List α}{m:Nat}(h:l=A++(B++C))(a:A.length=0)(b:B.length=m):l.take m=B:=by
 have:=qe h a b;simpa using this
theorem mT{α:Type}{l A B C:List α}{o m i:Nat}{b:α}{j:Nat}(h:l=A++(B++C))(a:A.length=o)(d:B.length=m)(c:j=o+i)(hb:B[i]?=some b):l[j]?=some b:=by
 subst h;subst a;subst c;have:=(aV.1 hb).1;rw[iY a8,nQ,fP this];exact hb
theorem Zf{α:Type}{l A B C E:List α}{o m i n j:Nat}(h:l=A++(B++C))(a:A.length=o)(c:B.length=m)(b:j=o+i/\i+n<=m)(hb:(B.drop i).take n=E):(l.drop j).take n=E:=by
 subst h;subst a;obtain⟨rfl,d⟩:=b;rw[iL,iM a8,bt,nQ,iL,ij (by rw[ax];omega)];exact hb
theorem rP{α:Type}{l A B C E:List α}{o m n j:Nat}(h:l=A++(B++C))(a:A.length=o)(b:B.length=m)(c:j=o/\n<=m)(hb:B.take n=E):(l.drop j).take n=E:=
 Zf (i:=0) h a b ⟨c.1,by omega⟩ (by simpa using hb)
theorem Zg{α:Type}{l A B C E:List α}{m n:Nat}(h:l=A++(B++C))(a:A.length=0)(b:B.length=m)(c:n<=m)(hb:B.take n=E):l.take n=E:=by
 have:=rP (j:=0) h a b ⟨rfl,c⟩ hb;simpa using this
theorem df{l l' A B B' C:List D}{o m:Nat}(h:l=A++(B++C))(c:A.length=o)(e:B.length=m)(a:B'.length=m)(b:l'=A++(B'++C)):ba (l.map .d) o m (B'.map .d)=some (l'.map .d):=by
 subst h;subst b;subst c;unfold ba;rw[if_pos ⟨by simpa using a,by simp;omega⟩];simp only[fF];congr 1;rw[bk,ij (by simp),dL (by simp),<-e];congr 1
 rw[iL,iM (by simp),bt,aM,nQ,iL,iM (by simp),bt,aM,jc,ky]
theorem Rv(fr:Fr)(cs:List AV):lF fr cs []=some cs:=rfl
theorem Tf{α β:Type}(f:α->β)(l:List α)(n:Nat):(l.map f).drop n=(l.drop n).map f:=by rw[List.map_drop]
theorem Tj{α β:Type}(f:α->β)(l:List α)(n:Nat):(l.map f).take n=(l.take n).map f:=by rw[List.map_take]
theorem yh: ∀(ds:List D),lE (ds.map .d)=some ds
 |[]=>rfl
 |x::l=>by show(lE (l.map AV.d)).map (x:: ·)=_;rw[yh l];rfl
theorem Pg(ds:List D):aggA (ds.map .d)= .d (.agg ds):=by unfold aggA;rw[yh]
theorem Nj(ds:List D):toLs (ds.map .d)=some ds:=DS (yh ds)
theorem uj(s:List aa)(f:Nat): ∀(ds:List D),dw (bE s (f+1)) (ds.map .d)=some ds
 |[]=>rfl
 |x::l=>by
  have h:=uj s f l;simp only[bX,dw,h,bE,AV.toL]
theorem RW(ds:List D)(o i:Nat):(ds.drop o)[i]?=ds[o+i]? :=gf
theorem Qk{α:Type}(sz:Nat)(l:List α):chunk sz 1 l=[l.take sz]:=rfl
end Go.Bb
namespace Go.Proofs.Q
open Go Go.Bb Go.Proofs.Lg
open Go.Ab (D)
def Bytes(l:List Int):Prop:= ∀b∈l,0<=b/\b<256
structure Dg where
 l:List Int
 len:l.length=32
 by_:Bytes l
 deriving DecidableEq
theorem Dg.ext{a b:Dg}(h:a.l=b.l):a=b:=by
 cases a;cases b;cases h;rfl
def Dg.zero:Dg:=⟨List.replicate 32 0,by decide,by unfold Bytes;decide⟩
instance:Inhabited Dg:=⟨.zero⟩
def au(d:Dg):List D:=d.l.map λb=> .sc (.int .u8 b)
theorem b9(d:Dg):(au d).length=32:=by simp[au,d.len]
def fA(b:ByteArray):List D:=[.sc (.string b)]
theorem XP(b:ByteArray):(fA b).length=1:=rfl
theorem tt(d:Dg):(au d).take 32=au d:=dL (by rw[b9];exact bg _)
theorem LQ(x:Dg)(l:List D):(au x++l).take 32=au x:=by rw[ij (by rw[b9];exact bg _)];exact tt x
theorem Xg(x:Dg)(l:List D):(au x++l).drop 32=l:=by rw[iL,iM (by rw[b9];exact bg _),b9];rfl
inductive Sx where
 |mk (isL:Bool) (atom:ByteArray) (l:List Sx)
mutual
def aj:Sx->List D
 | .mk b a l=>[.sc (.bool b),.sc (.string a),.sl 3 (zm l)]
def zm:List Sx->List (List D)
 |[]=>[]
 |x::l=>aj x::zm l
end
theorem M5: ∀(l:List Sx),zm l=l.map aj
 |[]=>by simp only[zm,fi]
 |x::l=>by simp only[zm,M5 l,bX]
theorem lT(b:Bool)(a:ByteArray)(l:List Sx):aj (.mk b a l)=[.sc (.bool b),.sc (.string a),.sl 3 (l.map aj)]:=by rw[aj,M5]
def Sx.isL:Sx->Bool
 | .mk b _ _=>b
def Sx.atom:Sx->ByteArray
 | .mk _ a _=>a
def Sx.list:Sx->List Sx
 | .mk _ _ l=>l
def Sx.zero:Sx:= .mk false ⟨#[]⟩ []
theorem kp(x:Sx):aj x=[.sc (.bool x.isL),.sc (.string x.atom),.sl 3 (x.list.map aj)]:=by cases x;exact lT ..
theorem dh(x:Sx):(aj x).length=3:=by rw[kp];rfl
theorem XQ(x:Sx):(aj x).take 3=aj x:=by rw[kp];rfl
theorem Y5(x:Sx)(l:List D):(aj x++l).take 3=aj x:=by rw[kp];rfl
theorem XR(x:Sx)(l:List D):(aj x++l).drop 3=l:=by rw[kp];rfl
theorem XS(x:Sx):(aj x)[0]?=some (.sc (.bool x.isL)):=by rw[kp];rfl
theorem XT(x:Sx):(aj x)[1]?=some (.sc (.string x.atom)):=by rw[kp];rfl
theorem XU(x:Sx):(aj x)[2]?=some (.sl 3 (x.list.map aj)):=by rw[kp];rfl
theorem Y2(x:Sx)(v:Bool):ba ((aj x).map .d) 0 1 [.d (.sc (.bool v))]=some ((aj (.mk v x.atom x.list)).map .d):=by rw[kp,lT];rfl
theorem Y3(x:Sx)(v:ByteArray):ba ((aj x).map .d) 1 1 [.d (.sc (.string v))]=some ((aj (.mk x.isL v x.list)).map .d):=by rw[kp,lT];rfl
theorem tw(x:Sx)(v:List Sx):ba ((aj x).map .d) 2 1 [.d (.sl 3 (v.map aj))]=some ((aj (.mk x.isL x.atom v)).map .d):=by rw[kp,lT];rfl
theorem Y4(x:Sx)(l:List AV)(h:l.length=3):ba l 0 3 ((aj x).map .d)=some ((aj x).map .d):=iE h (by rw[aM,dh])
structure ak where
 p:Dg
 n:Int
 deriving DecidableEq
def ak.zero:ak:=⟨Dg.zero,0⟩
instance:Inhabited ak:=⟨.zero⟩
def ae(x:ak):List D:=au x.p++([.sc (.int .i64 (x.n))])
theorem aN(x:ak):(ae x).length=33:=by simp only[ae,aQ,aY,bc,b9]
theorem Fv(x:ak):(ae x).take 33=ae x:=dL (by rw[aN];exact bg _)
theorem Xl(x:ak)(l:List D):(ae x++l).take 33=ae x:=by rw[ij (by rw[aN];exact bg _)];exact Fv x
theorem Xi(x:ak)(l:List D):(ae x++l).drop 33=l:=by rw[iL,iM (by rw[aN];exact bg _),aN];rfl
theorem fe(x:ak)(l:List AV)(h:l.length=33):ba l 0 33 ((ae x).map .d)=some ((ae x).map .d):=iE h (by rw[aM,aN])
theorem Fw(x:ak):ae x=([])++((au x.p)++([.sc (.int .i64 (x.n))])):=by simp only[ae,bk,bq,bt]
theorem ph(x:ak):((ae x)).take 32=au x.p:=EN (Fw x) (by simp only[aQ,aY,bc,b9]) (b9 _)
theorem Xj(x:ak)(v:Dg):ba ((ae x).map .d) 0 32 ((au v).map .d)=some ((ae {x with p:=v}).map .d):=df (B':=au v) (Fw x) (by simp only[aQ,aY,bc,b9]) (b9 _) (b9 _) (Fw {x with p:=v})
theorem Fx(x:ak):ae x=(au x.p)++(([.sc (.int .i64 (x.n))])++([])):=by simp only[ae,bk,bq,bt]
theorem pj(x:ak):(ae x)[32]?=some (.sc (.int .i64 (x.n))):=iD (Fx x) (by simp only[aQ,aY,bc,b9])
theorem Xk(x:ak)(v:Int):ba ((ae x).map .d) 32 1 [.d (.sc (.int .i64 (v)))]=some ((ae {x with n:=v}).map .d):=df (B':=[.sc (.int .i64 (v))]) (Fx x) (by simp only[aQ,aY,bc,b9]) rfl rfl (Fx {x with n:=v})
structure az where
 kind:Int
 file:ak
 type:Int
 parent:ak
 name:ByteArray
 mode:Int
 data:ByteArray
 after:ak
 before:ak
 lines:List ByteArray
 over:List ak
 deriving DecidableEq
def az.zero:az:=⟨0,ak.zero,0,ak.zero,⟨#[]⟩,0,⟨#[]⟩,ak.zero,ak.zero,[],[]⟩
instance:Inhabited az:=⟨.zero⟩
def aR(x:az):List D:=[.sc (.int .i64 (x.kind))]++(ae x.file++([.sc (.int .i64 (x.type))]++(ae x.parent++([.sc (.string (x.name))]++([.sc (.int .i64 (x.mode))]++([.sc (.string (x.data))]++(ae x.after++(ae x.before++([.sl 1 ((x.lines).map fA)]++([.sl 33 ((x.over).map ae)]))))))))))
theorem dV(x:az):(aR x).length=139:=by simp only[aR,aQ,aY,bc,aN]
theorem LM(x:az):(aR x).take 139=aR x:=dL (by rw[dV];exact bg _)
theorem Xf(x:az)(l:List D):(aR x++l).take 139=aR x:=by rw[ij (by rw[dV];exact bg _)];exact LM x
theorem WI(x:az)(l:List D):(aR x++l).drop 139=l:=by rw[iL,iM (by rw[dV];exact bg _),dV];rfl
theorem Xc(x:az)(l:List AV)(h:l.length=139):ba l 0 139 ((aR x).map .d)=some ((aR x).map .d):=iE h (by rw[aM,dV])
theorem Fm(x:az):aR x=([])++(([.sc (.int .i64 (x.kind))])++(ae x.file++([.sc (.int .i64 (x.type))]++(ae x.parent++([.sc (.string (x.name))]++([.sc (.int .i64 (x.mode))]++([.sc (.string (x.data))]++(ae x.after++(ae x.before++([.sl 1 ((x.lines).map fA)]++([.sl 33 ((x.over).map ae)]))))))))))):=by simp only[aR,bk,bq,bt]
theorem WJ(x:az):(aR x)[0]?=some (.sc (.int .i64 (x.kind))):=iD (Fm x) (by simp only[aQ,aY,bc,aN])
theorem X3(x:az)(v:Int):ba ((aR x).map .d) 0 1 [.d (.sc (.int .i64 (v)))]=some ((aR {x with kind:=v}).map .d):=df (B':=[.sc (.int .i64 (v))]) (Fm x) (by simp only[aQ,aY,bc,aN]) rfl rfl (Fm {x with kind:=v})
theorem zi(x:az):aR x=([.sc (.int .i64 (x.kind))])++((ae x.file)++([.sc (.int .i64 (x.type))]++(ae x.parent++([.sc (.string (x.name))]++([.sc (.int .i64 (x.mode))]++([.sc (.string (x.data))]++(ae x.after++(ae x.before++([.sl 1 ((x.lines).map fA)]++([.sl 33 ((x.over).map ae)])))))))))):=by simp only[aR,bk,bq,bt]
theorem WK(x:az):((aR x).drop 1).take 33=ae x.file:=qe (zi x) (by simp only[aQ,aY,bc,aN]) (aN _)
theorem X4(x:az)(v:ak):ba ((aR x).map .d) 1 33 ((ae v).map .d)=some ((aR {x with file:=v}).map .d):=df (B':=ae v) (zi x) (by simp only[aQ,aY,bc,aN]) (aN _) (aN _) (zi {x with file:=v})
theorem WY(x:az):((aR x).drop 1).take 32=au x.file.p:=rP (o:=1) (zi x) (by simp only[aQ,aY,bc,aN]) (aN _) (by decide) (ph _)
theorem WZ(x:az):(aR x)[33]?=some (.sc (.int .i64 (x.file.n))):=mT (o:=1) (i:=32) (zi x) (by simp only[aQ,aY,bc,aN]) (aN _) (by decide) (pj _)
theorem Fp(x:az):aR x=([.sc (.int .i64 (x.kind))]++(ae x.file))++(([.sc (.int .i64 (x.type))])++(ae x.parent++([.sc (.string (x.name))]++([.sc (.int .i64 (x.mode))]++([.sc (.string (x.data))]++(ae x.after++(ae x.before++([.sl 1 ((x.lines).map fA)]++([.sl 33 ((x.over).map ae)]))))))))):=by simp only[aR,bk,bq,bt]
theorem WM(x:az):(aR x)[34]?=some (.sc (.int .i64 (x.type))):=iD (Fp x) (by simp only[aQ,aY,bc,aN])
theorem X5(x:az)(v:Int):ba ((aR x).map .d) 34 1 [.d (.sc (.int .i64 (v)))]=some ((aR {x with type:=v}).map .d):=df (B':=[.sc (.int .i64 (v))]) (Fp x) (by simp only[aQ,aY,bc,aN]) rfl rfl (Fp {x with type:=v})
theorem zj(x:az):aR x=([.sc (.int .i64 (x.kind))]++(ae x.file++([.sc (.int .i64 (x.type))])))++((ae x.parent)++([.sc (.string (x.name))]++([.sc (.int .i64 (x.mode))]++([.sc (.string (x.data))]++(ae x.after++(ae x.before++([.sl 1 ((x.lines).map fA)]++([.sl 33 ((x.over).map ae)])))))))):=by simp only[aR,bk,bq,bt]
theorem WN(x:az):((aR x).drop 35).take 33=ae x.parent:=qe (zj x) (by simp only[aQ,aY,bc,aN]) (aN _)
theorem X6(x:az)(v:ak):ba ((aR x).map .d) 35 33 ((ae v).map .d)=some ((aR {x with parent:=v}).map .d):=df (B':=ae v) (zj x) (by simp only[aQ,aY,bc,aN]) (aN _) (aN _) (zj {x with parent:=v})
theorem X0(x:az):((aR x).drop 35).take 32=au x.parent.p:=rP (o:=35) (zj x) (by simp only[aQ,aY,bc,aN]) (aN _) (by decide) (ph _)
theorem X1(x:az):(aR x)[67]?=some (.sc (.int .i64 (x.parent.n))):=mT (o:=35) (i:=32) (zj x) (by simp only[aQ,aY,bc,aN]) (aN _) (by decide) (pj _)
theorem Fq(x:az):aR x=([.sc (.int .i64 (x.kind))]++(ae x.file++([.sc (.int .i64 (x.type))]++(ae x.parent))))++(([.sc (.string (x.name))])++([.sc (.int .i64 (x.mode))]++([.sc (.string (x.data))]++(ae x.after++(ae x.before++([.sl 1 ((x.lines).map fA)]++([.sl 33 ((x.over).map ae)]))))))):=by simp only[aR,bk,bq,bt]
theorem WO(x:az):(aR x)[68]?=some (.sc (.string (x.name))):=iD (Fq x) (by simp only[aQ,aY,bc,aN])
theorem X7(x:az)(v:ByteArray):ba ((aR x).map .d) 68 1 [.d (.sc (.string (v)))]=some ((aR {x with name:=v}).map .d):=df (B':=[.sc (.string (v))]) (Fq x) (by simp only[aQ,aY,bc,aN]) rfl rfl (Fq {x with name:=v})
theorem Fs(x:az):aR x=([.sc (.int .i64 (x.kind))]++(ae x.file++([.sc (.int .i64 (x.type))]++(ae x.parent++([.sc (.string (x.name))])))))++(([.sc (.int .i64 (x.mode))])++([.sc (.string (x.data))]++(ae x.after++(ae x.before++([.sl 1 ((x.lines).map fA)]++([.sl 33 ((x.over).map ae)])))))):=by simp only[aR,bk,bq,bt]
theorem WQ(x:az):(aR x)[69]?=some (.sc (.int .i64 (x.mode))):=iD (Fs x) (by simp only[aQ,aY,bc,aN])
theorem X8(x:az)(v:Int):ba ((aR x).map .d) 69 1 [.d (.sc (.int .i64 (v)))]=some ((aR {x with mode:=v}).map .d):=df (B':=[.sc (.int .i64 (v))]) (Fs x) (by simp only[aQ,aY,bc,aN]) rfl rfl (Fs {x with mode:=v})
theorem Ft(x:az):aR x=([.sc (.int .i64 (x.kind))]++(ae x.file++([.sc (.int .i64 (x.type))]++(ae x.parent++([.sc (.string (x.name))]++([.sc (.int .i64 (x.mode))]))))))++(([.sc (.string (x.data))])++(ae x.after++(ae x.before++([.sl 1 ((x.lines).map fA)]++([.sl 33 ((x.over).map ae)]))))):=by simp only[aR,bk,bq,bt]
theorem WR(x:az):(aR x)[70]?=some (.sc (.string (x.data))):=iD (Ft x) (by simp only[aQ,aY,bc,aN])
theorem X9(x:az)(v:ByteArray):ba ((aR x).map .d) 70 1 [.d (.sc (.string (v)))]=some ((aR {x with data:=v}).map .d):=df (B':=[.sc (.string (v))]) (Ft x) (by simp only[aQ,aY,bc,aN]) rfl rfl (Ft {x with data:=v})
theorem zk(x:az):aR x=([.sc (.int .i64 (x.kind))]++(ae x.file++([.sc (.int .i64 (x.type))]++(ae x.parent++([.sc (.string (x.name))]++([.sc (.int .i64 (x.mode))]++([.sc (.string (x.data))])))))))++((ae x.after)++(ae x.before++([.sl 1 ((x.lines).map fA)]++([.sl 33 ((x.over).map ae)])))):=by simp only[aR,bk,bq,bt]
theorem WS(x:az):((aR x).drop 71).take 33=ae x.after:=qe (zk x) (by simp only[aQ,aY,bc,aN]) (aN _)
theorem Xa(x:az)(v:ak):ba ((aR x).map .d) 71 33 ((ae v).map .d)=some ((aR {x with after:=v}).map .d):=df (B':=ae v) (zk x) (by simp only[aQ,aY,bc,aN]) (aN _) (aN _) (zk {x with after:=v})
theorem X2(x:az):((aR x).drop 71).take 32=au x.after.p:=rP (o:=71) (zk x) (by simp only[aQ,aY,bc,aN]) (aN _) (by decide) (ph _)
theorem WV(x:az):(aR x)[103]?=some (.sc (.int .i64 (x.after.n))):=mT (o:=71) (i:=32) (zk x) (by simp only[aQ,aY,bc,aN]) (aN _) (by decide) (pj _)
theorem zl(x:az):aR x=([.sc (.int .i64 (x.kind))]++(ae x.file++([.sc (.int .i64 (x.type))]++(ae x.parent++([.sc (.string (x.name))]++([.sc (.int .i64 (x.mode))]++([.sc (.string (x.data))]++(ae x.after))))))))++((ae x.before)++([.sl 1 ((x.lines).map fA)]++([.sl 33 ((x.over).map ae)]))):=by simp only[aR,bk,bq,bt]
theorem WT(x:az):((aR x).drop 104).take 33=ae x.before:=qe (zl x) (by simp only[aQ,aY,bc,aN]) (aN _)
theorem Xb(x:az)(v:ak):ba ((aR x).map .d) 104 33 ((ae v).map .d)=some ((aR {x with before:=v}).map .d):=df (B':=ae v) (zl x) (by simp only[aQ,aY,bc,aN]) (aN _) (aN _) (zl {x with before:=v})
theorem WW(x:az):((aR x).drop 104).take 32=au x.before.p:=rP (o:=104) (zl x) (by simp only[aQ,aY,bc,aN]) (aN _) (by decide) (ph _)
theorem WX(x:az):(aR x)[136]?=some (.sc (.int .i64 (x.before.n))):=mT (o:=104) (i:=32) (zl x) (by simp only[aQ,aY,bc,aN]) (aN _) (by decide) (pj _)
theorem Fu(x:az):aR x=([.sc (.int .i64 (x.kind))]++(ae x.file++([.sc (.int .i64 (x.type))]++(ae x.parent++([.sc (.string (x.name))]++([.sc (.int .i64 (x.mode))]++([.sc (.string (x.data))]++(ae x.after++(ae x.before)))))))))++(([.sl 1 ((x.lines).map fA)])++([.sl 33 ((x.over).map ae)])):=by simp only[aR,bk,bq,bt]
theorem WU(x:az):(aR x)[137]?=some (.sl 1 ((x.lines).map fA)):=iD (Fu x) (by simp only[aQ,aY,bc,aN])
theorem Cb(x:az)(v:List ByteArray):ba ((aR x).map .d) 137 1 [.d (.sl 1 ((v).map fA))]=some ((aR {x with lines:=v}).map .d):=df (B':=[.sl 1 ((v).map fA)]) (Fu x) (by simp only[aQ,aY,bc,aN]) rfl rfl (Fu {x with lines:=v})
theorem Xe(x:az):ba ((aR x).map .d) 137 1 [.d (.sl 1 [])]=some ((aR {x with lines:=[]}).map .d):=Cb x []
theorem Fo(x:az):aR x=([.sc (.int .i64 (x.kind))]++(ae x.file++([.sc (.int .i64 (x.type))]++(ae x.parent++([.sc (.string (x.name))]++([.sc (.int .i64 (x.mode))]++([.sc (.string (x.data))]++(ae x.after++(ae x.before++([.sl 1 ((x.lines).map fA)]))))))))))++(([.sl 33 ((x.over).map ae)])++([])):=by simp only[aR,bk,bq,bt]
theorem WL(x:az):(aR x)[138]?=some (.sl 33 ((x.over).map ae)):=iD (Fo x) (by simp only[aQ,aY,bc,aN])
theorem LN(x:az)(v:List ak):ba ((aR x).map .d) 138 1 [.d (.sl 33 ((v).map ae))]=some ((aR {x with over:=v}).map .d):=df (B':=[.sl 33 ((v).map ae)]) (Fo x) (by simp only[aQ,aY,bc,aN]) rfl rfl (Fo {x with over:=v})
theorem Xd(x:az):ba ((aR x).map .d) 138 1 [.d (.sl 33 [])]=some ((aR {x with over:=[]}).map .d):=LN x []
structure aU where
 author:ByteArray
 message:ByteArray
 time:Int
 deps:List Dg
 changes:List az
 deriving DecidableEq
def aU.zero:aU:=⟨⟨#[]⟩,⟨#[]⟩,0,[],[]⟩
instance:Inhabited aU:=⟨.zero⟩
def br(x:aU):List D:=[.sc (.string (x.author))]++([.sc (.string (x.message))]++([.sc (.int .i64 (x.time))]++([.sl 32 ((x.deps).map au)]++([.sl 139 ((x.changes).map aR)]))))
theorem bH(x:aU):(br x).length=5:=by simp only[br,aQ,aY,bc]
theorem LS(x:aU):(br x).take 5=br x:=dL (by rw[bH];exact bg _)
theorem XC(x:aU)(l:List D):(br x++l).take 5=br x:=by rw[ij (by rw[bH];exact bg _)];exact LS x
theorem Xv(x:aU)(l:List D):(br x++l).drop 5=l:=by rw[iL,iM (by rw[bH];exact bg _),bH];rfl
theorem Xz(x:aU)(l:List AV)(h:l.length=5):ba l 0 5 ((br x).map .d)=some ((br x).map .d):=iE h (by rw[aM,bH])
theorem FC(x:aU):br x=([])++(([.sc (.string (x.author))])++([.sc (.string (x.message))]++([.sc (.int .i64 (x.time))]++([.sl 32 ((x.deps).map au)]++([.sl 139 ((x.changes).map aR)]))))):=by simp only[br,bk,bq,bt]
theorem LU(x:aU):(br x)[0]?=some (.sc (.string (x.author))):=iD (FC x) (by simp only[aQ,aY,bc])
theorem Xw(x:aU)(v:ByteArray):ba ((br x).map .d) 0 1 [.d (.sc (.string (v)))]=some ((br {x with author:=v}).map .d):=df (B':=[.sc (.string (v))]) (FC x) (by simp only[aQ,aY,bc]) rfl rfl (FC {x with author:=v})
theorem FD(x:aU):br x=([.sc (.string (x.author))])++(([.sc (.string (x.message))])++([.sc (.int .i64 (x.time))]++([.sl 32 ((x.deps).map au)]++([.sl 139 ((x.changes).map aR)])))):=by simp only[br,bk,bq,bt]
theorem LV(x:aU):(br x)[1]?=some (.sc (.string (x.message))):=iD (FD x) (by simp only[aQ,aY,bc])
theorem Xx(x:aU)(v:ByteArray):ba ((br x).map .d) 1 1 [.d (.sc (.string (v)))]=some ((br {x with message:=v}).map .d):=df (B':=[.sc (.string (v))]) (FD x) (by simp only[aQ,aY,bc]) rfl rfl (FD {x with message:=v})
theorem FE(x:aU):br x=([.sc (.string (x.author))]++([.sc (.string (x.message))]))++(([.sc (.int .i64 (x.time))])++([.sl 32 ((x.deps).map au)]++([.sl 139 ((x.changes).map aR)]))):=by simp only[br,bk,bq,bt]
theorem LW(x:aU):(br x)[2]?=some (.sc (.int .i64 (x.time))):=iD (FE x) (by simp only[aQ,aY,bc])
theorem Xy(x:aU)(v:Int):ba ((br x).map .d) 2 1 [.d (.sc (.int .i64 (v)))]=some ((br {x with time:=v}).map .d):=df (B':=[.sc (.int .i64 (v))]) (FE x) (by simp only[aQ,aY,bc]) rfl rfl (FE {x with time:=v})
theorem FF(x:aU):br x=([.sc (.string (x.author))]++([.sc (.string (x.message))]++([.sc (.int .i64 (x.time))])))++(([.sl 32 ((x.deps).map au)])++([.sl 139 ((x.changes).map aR)])):=by simp only[br,bk,bq,bt]
theorem LX(x:aU):(br x)[3]?=some (.sl 32 ((x.deps).map au)):=iD (FF x) (by simp only[aQ,aY,bc])
theorem LZ(x:aU)(v:List Dg):ba ((br x).map .d) 3 1 [.d (.sl 32 ((v).map au))]=some ((br {x with deps:=v}).map .d):=df (B':=[.sl 32 ((v).map au)]) (FF x) (by simp only[aQ,aY,bc]) rfl rfl (FF {x with deps:=v})
theorem XA(x:aU):ba ((br x).map .d) 3 1 [.d (.sl 32 [])]=some ((br {x with deps:=[]}).map .d):=LZ x []
theorem FG(x:aU):br x=([.sc (.string (x.author))]++([.sc (.string (x.message))]++([.sc (.int .i64 (x.time))]++([.sl 32 ((x.deps).map au)]))))++(([.sl 139 ((x.changes).map aR)])++([])):=by simp only[br,bk,bq,bt]
theorem LY(x:aU):(br x)[4]?=some (.sl 139 ((x.changes).map aR)):=iD (FG x) (by simp only[aQ,aY,bc])
theorem M1(x:aU)(v:List az):ba ((br x).map .d) 4 1 [.d (.sl 139 ((v).map aR))]=some ((br {x with changes:=v}).map .d):=df (B':=[.sl 139 ((v).map aR)]) (FG x) (by simp only[aQ,aY,bc]) rfl rfl (FG {x with changes:=v})
theorem XB(x:aU):ba ((br x).map .d) 4 1 [.d (.sl 139 [])]=some ((br {x with changes:=[]}).map .d):=M1 x []
structure bD where
 id:Dg
 pat:aU
 deriving DecidableEq
def bD.zero:bD:=⟨Dg.zero,aU.zero⟩
instance:Inhabited bD:=⟨.zero⟩
def aX(x:bD):List D:=au x.id++(br x.pat)
theorem fg(x:bD):(aX x).length=37:=by simp only[aX,aQ,aY,bc,b9,bH]
theorem M4(x:bD):(aX x).take 37=aX x:=dL (by rw[fg];exact bg _)
theorem XO(x:bD)(l:List D):(aX x++l).take 37=aX x:=by rw[ij (by rw[fg];exact bg _)];exact M4 x
theorem XD(x:bD)(l:List D):(aX x++l).drop 37=l:=by rw[iL,iM (by rw[fg];exact bg _),fg];rfl
theorem XN(x:bD)(l:List AV)(h:l.length=37):ba l 0 37 ((aX x).map .d)=some ((aX x).map .d):=iE h (by rw[aM,fg])
theorem FH(x:bD):aX x=([])++((au x.id)++(br x.pat)):=by simp only[aX,bk,bq,bt]
theorem XE(x:bD):((aX x)).take 32=au x.id:=EN (FH x) (by simp only[aQ,aY,bc,b9,bH]) (b9 _)
theorem XL(x:bD)(v:Dg):ba ((aX x).map .d) 0 32 ((au v).map .d)=some ((aX {x with id:=v}).map .d):=df (B':=au v) (FH x) (by simp only[aQ,aY,bc,b9,bH]) (b9 _) (b9 _) (FH {x with id:=v})
theorem tu(x:bD):aX x=(au x.id)++((br x.pat)++([])):=by simp only[aX,bk,bq,bt]
theorem XF(x:bD):((aX x).drop 32).take 5=br x.pat:=qe (tu x) (by simp only[aQ,aY,bc,b9,bH]) (bH _)
theorem XM(x:bD)(v:aU):ba ((aX x).map .d) 32 5 ((br v).map .d)=some ((aX {x with pat:=v}).map .d):=df (B':=br v) (tu x) (by simp only[aQ,aY,bc,b9,bH]) (bH _) (bH _) (tu {x with pat:=v})
theorem XG(x:bD):(aX x)[32]?=some (.sc (.string (x.pat.author))):=mT (o:=32) (i:=0) (tu x) (by simp only[aQ,aY,bc,b9,bH]) (bH _) (by decide) (LU _)
theorem XH(x:bD):(aX x)[33]?=some (.sc (.string (x.pat.message))):=mT (o:=32) (i:=1) (tu x) (by simp only[aQ,aY,bc,b9,bH]) (bH _) (by decide) (LV _)
theorem XI(x:bD):(aX x)[34]?=some (.sc (.int .i64 (x.pat.time))):=mT (o:=32) (i:=2) (tu x) (by simp only[aQ,aY,bc,b9,bH]) (bH _) (by decide) (LW _)
theorem XJ(x:bD):(aX x)[35]?=some (.sl 32 ((x.pat.deps).map au)):=mT (o:=32) (i:=3) (tu x) (by simp only[aQ,aY,bc,b9,bH]) (bH _) (by decide) (LX _)
theorem XK(x:bD):(aX x)[36]?=some (.sl 139 ((x.pat.changes).map aR)):=mT (o:=32) (i:=4) (tu x) (by simp only[aQ,aY,bc,b9,bH]) (bH _) (by decide) (LY _)
structure ay where
 id:ak
 kind:Int
 file:ak
 type:Int
 parent:ak
 name:ByteArray
 mode:Int
 data:ByteArray
 text:ByteArray
 fro:ak
 til:ak
 over:List ak
 deriving DecidableEq
def ay.zero:ay:=⟨ak.zero,0,ak.zero,0,ak.zero,⟨#[]⟩,0,⟨#[]⟩,⟨#[]⟩,ak.zero,ak.zero,[]⟩
instance:Inhabited ay:=⟨.zero⟩
def aO(x:ay):List D:=ae x.id++([.sc (.int .i64 (x.kind))]++(ae x.file++([.sc (.int .i64 (x.type))]++(ae x.parent++([.sc (.string (x.name))]++([.sc (.int .i64 (x.mode))]++([.sc (.string (x.data))]++([.sc (.string (x.text))]++(ae x.fro++(ae x.til++([.sl 33 ((x.over).map ae)])))))))))))
theorem bB(x:ay):(aO x).length=172:=by simp only[aO,aQ,aY,bc,aN]
theorem LJ(x:ay):(aO x).take 172=aO x:=dL (by rw[bB];exact bg _)
theorem WG(x:ay)(l:List D):(aO x++l).take 172=aO x:=by rw[ij (by rw[bB];exact bg _)];exact LJ x
theorem W6(x:ay)(l:List D):(aO x++l).drop 172=l:=by rw[iL,iM (by rw[bB];exact bg _),bB];rfl
theorem lR(x:ay)(l:List AV)(h:l.length=172):ba l 0 172 ((aO x).map .d)=some ((aO x).map .d):=iE h (by rw[aM,bB])
theorem zd(x:ay):aO x=([])++((ae x.id)++([.sc (.int .i64 (x.kind))]++(ae x.file++([.sc (.int .i64 (x.type))]++(ae x.parent++([.sc (.string (x.name))]++([.sc (.int .i64 (x.mode))]++([.sc (.string (x.data))]++([.sc (.string (x.text))]++(ae x.fro++(ae x.til++([.sl 33 ((x.over).map ae)])))))))))))):=by simp only[aO,bk,bq,bt]
theorem W7(x:ay):((aO x)).take 33=ae x.id:=EN (zd x) (by simp only[aQ,aY,bc,aN]) (aN _)
theorem Wt(x:ay)(v:ak):ba ((aO x).map .d) 0 33 ((ae v).map .d)=some ((aO {x with id:=v}).map .d):=df (B':=ae v) (zd x) (by simp only[aQ,aY,bc,aN]) (aN _) (aN _) (zd {x with id:=v})
theorem Wj(x:ay):(aO x).take 32=au x.id.p:=Zg (zd x) (by simp only[aQ,aY,bc,aN]) (aN _) (by decide) (ph _)
theorem Wp(x:ay):(aO x)[32]?=some (.sc (.int .i64 (x.id.n))):=mT (o:=0) (i:=32) (zd x) (by simp only[aQ,aY,bc,aN]) (aN _) (by decide) (pj _)
theorem Ff(x:ay):aO x=(ae x.id)++(([.sc (.int .i64 (x.kind))])++(ae x.file++([.sc (.int .i64 (x.type))]++(ae x.parent++([.sc (.string (x.name))]++([.sc (.int .i64 (x.mode))]++([.sc (.string (x.data))]++([.sc (.string (x.text))]++(ae x.fro++(ae x.til++([.sl 33 ((x.over).map ae)]))))))))))):=by simp only[aO,bk,bq,bt]
theorem W8(x:ay):(aO x)[33]?=some (.sc (.int .i64 (x.kind))):=iD (Ff x) (by simp only[aQ,aY,bc,aN])
theorem Wu(x:ay)(v:Int):ba ((aO x).map .d) 33 1 [.d (.sc (.int .i64 (v)))]=some ((aO {x with kind:=v}).map .d):=df (B':=[.sc (.int .i64 (v))]) (Ff x) (by simp only[aQ,aY,bc,aN]) rfl rfl (Ff {x with kind:=v})
theorem zf(x:ay):aO x=(ae x.id++([.sc (.int .i64 (x.kind))]))++((ae x.file)++([.sc (.int .i64 (x.type))]++(ae x.parent++([.sc (.string (x.name))]++([.sc (.int .i64 (x.mode))]++([.sc (.string (x.data))]++([.sc (.string (x.text))]++(ae x.fro++(ae x.til++([.sl 33 ((x.over).map ae)])))))))))):=by simp only[aO,bk,bq,bt]
theorem Wb(x:ay):((aO x).drop 34).take 33=ae x.file:=qe (zf x) (by simp only[aQ,aY,bc,aN]) (aN _)
theorem Ww(x:ay)(v:ak):ba ((aO x).map .d) 34 33 ((ae v).map .d)=some ((aO {x with file:=v}).map .d):=df (B':=ae v) (zf x) (by simp only[aQ,aY,bc,aN]) (aN _) (aN _) (zf {x with file:=v})
theorem Wq(x:ay):((aO x).drop 34).take 32=au x.file.p:=rP (o:=34) (zf x) (by simp only[aQ,aY,bc,aN]) (aN _) (by decide) (ph _)
theorem Wr(x:ay):(aO x)[66]?=some (.sc (.int .i64 (x.file.n))):=mT (o:=34) (i:=32) (zf x) (by simp only[aQ,aY,bc,aN]) (aN _) (by decide) (pj _)
theorem Fh(x:ay):aO x=(ae x.id++([.sc (.int .i64 (x.kind))]++(ae x.file)))++(([.sc (.int .i64 (x.type))])++(ae x.parent++([.sc (.string (x.name))]++([.sc (.int .i64 (x.mode))]++([.sc (.string (x.data))]++([.sc (.string (x.text))]++(ae x.fro++(ae x.til++([.sl 33 ((x.over).map ae)]))))))))):=by simp only[aO,bk,bq,bt]
theorem Wc(x:ay):(aO x)[67]?=some (.sc (.int .i64 (x.type))):=iD (Fh x) (by simp only[aQ,aY,bc,aN])
theorem Wx(x:ay)(v:Int):ba ((aO x).map .d) 67 1 [.d (.sc (.int .i64 (v)))]=some ((aO {x with type:=v}).map .d):=df (B':=[.sc (.int .i64 (v))]) (Fh x) (by simp only[aQ,aY,bc,aN]) rfl rfl (Fh {x with type:=v})
theorem zg(x:ay):aO x=(ae x.id++([.sc (.int .i64 (x.kind))]++(ae x.file++([.sc (.int .i64 (x.type))]))))++((ae x.parent)++([.sc (.string (x.name))]++([.sc (.int .i64 (x.mode))]++([.sc (.string (x.data))]++([.sc (.string (x.text))]++(ae x.fro++(ae x.til++([.sl 33 ((x.over).map ae)])))))))):=by simp only[aO,bk,bq,bt]
theorem Wd(x:ay):((aO x).drop 68).take 33=ae x.parent:=qe (zg x) (by simp only[aQ,aY,bc,aN]) (aN _)
theorem Wy(x:ay)(v:ak):ba ((aO x).map .d) 68 33 ((ae v).map .d)=some ((aO {x with parent:=v}).map .d):=df (B':=ae v) (zg x) (by simp only[aQ,aY,bc,aN]) (aN _) (aN _) (zg {x with parent:=v})
theorem Ws(x:ay):((aO x).drop 68).take 32=au x.parent.p:=rP (o:=68) (zg x) (by simp only[aQ,aY,bc,aN]) (aN _) (by decide) (ph _)
theorem Wk(x:ay):(aO x)[100]?=some (.sc (.int .i64 (x.parent.n))):=mT (o:=68) (i:=32) (zg x) (by simp only[aQ,aY,bc,aN]) (aN _) (by decide) (pj _)
theorem Fi(x:ay):aO x=(ae x.id++([.sc (.int .i64 (x.kind))]++(ae x.file++([.sc (.int .i64 (x.type))]++(ae x.parent)))))++(([.sc (.string (x.name))])++([.sc (.int .i64 (x.mode))]++([.sc (.string (x.data))]++([.sc (.string (x.text))]++(ae x.fro++(ae x.til++([.sl 33 ((x.over).map ae)]))))))):=by simp only[aO,bk,bq,bt]
theorem We(x:ay):(aO x)[101]?=some (.sc (.string (x.name))):=iD (Fi x) (by simp only[aQ,aY,bc,aN])
theorem Wz(x:ay)(v:ByteArray):ba ((aO x).map .d) 101 1 [.d (.sc (.string (v)))]=some ((aO {x with name:=v}).map .d):=df (B':=[.sc (.string (v))]) (Fi x) (by simp only[aQ,aY,bc,aN]) rfl rfl (Fi {x with name:=v})
theorem Fj(x:ay):aO x=(ae x.id++([.sc (.int .i64 (x.kind))]++(ae x.file++([.sc (.int .i64 (x.type))]++(ae x.parent++([.sc (.string (x.name))]))))))++(([.sc (.int .i64 (x.mode))])++([.sc (.string (x.data))]++([.sc (.string (x.text))]++(ae x.fro++(ae x.til++([.sl 33 ((x.over).map ae)])))))):=by simp only[aO,bk,bq,bt]
theorem Wf(x:ay):(aO x)[102]?=some (.sc (.int .i64 (x.mode))):=iD (Fj x) (by simp only[aQ,aY,bc,aN])
theorem WA(x:ay)(v:Int):ba ((aO x).map .d) 102 1 [.d (.sc (.int .i64 (v)))]=some ((aO {x with mode:=v}).map .d):=df (B':=[.sc (.int .i64 (v))]) (Fj x) (by simp only[aQ,aY,bc,aN]) rfl rfl (Fj {x with mode:=v})
theorem Fk(x:ay):aO x=(ae x.id++([.sc (.int .i64 (x.kind))]++(ae x.file++([.sc (.int .i64 (x.type))]++(ae x.parent++([.sc (.string (x.name))]++([.sc (.int .i64 (x.mode))])))))))++(([.sc (.string (x.data))])++([.sc (.string (x.text))]++(ae x.fro++(ae x.til++([.sl 33 ((x.over).map ae)]))))):=by simp only[aO,bk,bq,bt]
theorem Wg(x:ay):(aO x)[103]?=some (.sc (.string (x.data))):=iD (Fk x) (by simp only[aQ,aY,bc,aN])
theorem WB(x:ay)(v:ByteArray):ba ((aO x).map .d) 103 1 [.d (.sc (.string (v)))]=some ((aO {x with data:=v}).map .d):=df (B':=[.sc (.string (v))]) (Fk x) (by simp only[aQ,aY,bc,aN]) rfl rfl (Fk {x with data:=v})
theorem Fl(x:ay):aO x=(ae x.id++([.sc (.int .i64 (x.kind))]++(ae x.file++([.sc (.int .i64 (x.type))]++(ae x.parent++([.sc (.string (x.name))]++([.sc (.int .i64 (x.mode))]++([.sc (.string (x.data))]))))))))++(([.sc (.string (x.text))])++(ae x.fro++(ae x.til++([.sl 33 ((x.over).map ae)])))):=by simp only[aO,bk,bq,bt]
theorem Wh(x:ay):(aO x)[104]?=some (.sc (.string (x.text))):=iD (Fl x) (by simp only[aQ,aY,bc,aN])
theorem WC(x:ay)(v:ByteArray):ba ((aO x).map .d) 104 1 [.d (.sc (.string (v)))]=some ((aO {x with text:=v}).map .d):=df (B':=[.sc (.string (v))]) (Fl x) (by simp only[aQ,aY,bc,aN]) rfl rfl (Fl {x with text:=v})
theorem zh(x:ay):aO x=(ae x.id++([.sc (.int .i64 (x.kind))]++(ae x.file++([.sc (.int .i64 (x.type))]++(ae x.parent++([.sc (.string (x.name))]++([.sc (.int .i64 (x.mode))]++([.sc (.string (x.data))]++([.sc (.string (x.text))])))))))))++((ae x.fro)++(ae x.til++([.sl 33 ((x.over).map ae)]))):=by simp only[aO,bk,bq,bt]
theorem Wi(x:ay):((aO x).drop 105).take 33=ae x.fro:=qe (zh x) (by simp only[aQ,aY,bc,aN]) (aN _)
theorem WD(x:ay)(v:ak):ba ((aO x).map .d) 105 33 ((ae v).map .d)=some ((aO {x with fro:=v}).map .d):=df (B':=ae v) (zh x) (by simp only[aQ,aY,bc,aN]) (aN _) (aN _) (zh {x with fro:=v})
theorem Wl(x:ay):((aO x).drop 105).take 32=au x.fro.p:=rP (o:=105) (zh x) (by simp only[aQ,aY,bc,aN]) (aN _) (by decide) (ph _)
theorem Wm(x:ay):(aO x)[137]?=some (.sc (.int .i64 (x.fro.n))):=mT (o:=105) (i:=32) (zh x) (by simp only[aQ,aY,bc,aN]) (aN _) (by decide) (pj _)
theorem ze(x:ay):aO x=(ae x.id++([.sc (.int .i64 (x.kind))]++(ae x.file++([.sc (.int .i64 (x.type))]++(ae x.parent++([.sc (.string (x.name))]++([.sc (.int .i64 (x.mode))]++([.sc (.string (x.data))]++([.sc (.string (x.text))]++(ae x.fro))))))))))++((ae x.til)++([.sl 33 ((x.over).map ae)])):=by simp only[aO,bk,bq,bt]
theorem W9(x:ay):((aO x).drop 138).take 33=ae x.til:=qe (ze x) (by simp only[aQ,aY,bc,aN]) (aN _)
theorem Wv(x:ay)(v:ak):ba ((aO x).map .d) 138 33 ((ae v).map .d)=some ((aO {x with til:=v}).map .d):=df (B':=ae v) (ze x) (by simp only[aQ,aY,bc,aN]) (aN _) (aN _) (ze {x with til:=v})
theorem Wn(x:ay):((aO x).drop 138).take 32=au x.til.p:=rP (o:=138) (ze x) (by simp only[aQ,aY,bc,aN]) (aN _) (by decide) (ph _)
theorem Wo(x:ay):(aO x)[170]?=some (.sc (.int .i64 (x.til.n))):=mT (o:=138) (i:=32) (ze x) (by simp only[aQ,aY,bc,aN]) (aN _) (by decide) (pj _)
theorem Fg(x:ay):aO x=(ae x.id++([.sc (.int .i64 (x.kind))]++(ae x.file++([.sc (.int .i64 (x.type))]++(ae x.parent++([.sc (.string (x.name))]++([.sc (.int .i64 (x.mode))]++([.sc (.string (x.data))]++([.sc (.string (x.text))]++(ae x.fro++(ae x.til)))))))))))++(([.sl 33 ((x.over).map ae)])++([])):=by simp only[aO,bk,bq,bt]
theorem Wa(x:ay):(aO x)[171]?=some (.sl 33 ((x.over).map ae)):=iD (Fg x) (by simp only[aQ,aY,bc,aN])
theorem LK(x:ay)(v:List ak):ba ((aO x).map .d) 171 1 [.d (.sl 33 ((v).map ae))]=some ((aO {x with over:=v}).map .d):=df (B':=[.sl 33 ((v).map ae)]) (Fg x) (by simp only[aQ,aY,bc,aN]) rfl rfl (Fg {x with over:=v})
theorem WE(x:ay):ba ((aO x).map .d) 171 1 [.d (.sl 33 [])]=some ((aO {x with over:=[]}).map .d):=LK x []
structure Meta where
 author:ByteArray
 message:ByteArray
 time:Int
 deriving DecidableEq
def Meta.zero:Meta:=⟨⟨#[]⟩,⟨#[]⟩,0⟩
instance:Inhabited Meta:=⟨.zero⟩
def eS(x:Meta):List D:=[.sc (.string (x.author))]++([.sc (.string (x.message))]++([.sc (.int .i64 (x.time))]))
theorem iF(x:Meta):(eS x).length=3:=by simp only[eS,aQ,aY,bc]
theorem Fy(x:Meta):(eS x).take 3=eS x:=dL (by rw[iF];exact bg _)
theorem Xu(x:Meta)(l:List D):(eS x++l).take 3=eS x:=by rw[ij (by rw[iF];exact bg _)];exact Fy x
theorem Xm(x:Meta)(l:List D):(eS x++l).drop 3=l:=by rw[iL,iM (by rw[iF];exact bg _),iF];rfl
theorem Xt(x:Meta)(l:List AV)(h:l.length=3):ba l 0 3 ((eS x).map .d)=some ((eS x).map .d):=iE h (by rw[aM,iF])
theorem Fz(x:Meta):eS x=([])++(([.sc (.string (x.author))])++([.sc (.string (x.message))]++([.sc (.int .i64 (x.time))]))):=by simp only[eS,bk,bq,bt]
theorem Xn(x:Meta):(eS x)[0]?=some (.sc (.string (x.author))):=iD (Fz x) (by simp only[aQ,aY,bc])
theorem Xq(x:Meta)(v:ByteArray):ba ((eS x).map .d) 0 1 [.d (.sc (.string (v)))]=some ((eS {x with author:=v}).map .d):=df (B':=[.sc (.string (v))]) (Fz x) (by simp only[aQ,aY,bc]) rfl rfl (Fz {x with author:=v})
theorem FA(x:Meta):eS x=([.sc (.string (x.author))])++(([.sc (.string (x.message))])++([.sc (.int .i64 (x.time))])):=by simp only[eS,bk,bq,bt]
theorem Xo(x:Meta):(eS x)[1]?=some (.sc (.string (x.message))):=iD (FA x) (by simp only[aQ,aY,bc])
theorem Xr(x:Meta)(v:ByteArray):ba ((eS x).map .d) 1 1 [.d (.sc (.string (v)))]=some ((eS {x with message:=v}).map .d):=df (B':=[.sc (.string (v))]) (FA x) (by simp only[aQ,aY,bc]) rfl rfl (FA {x with message:=v})
theorem FB(x:Meta):eS x=([.sc (.string (x.author))]++([.sc (.string (x.message))]))++(([.sc (.int .i64 (x.time))])++([])):=by simp only[eS,bk,bq,bt]
theorem Xp(x:Meta):(eS x)[2]?=some (.sc (.int .i64 (x.time))):=iD (FB x) (by simp only[aQ,aY,bc])
theorem Xs(x:Meta)(v:Int):ba ((eS x).map .d) 2 1 [.d (.sc (.int .i64 (v)))]=some ((eS {x with time:=v}).map .d):=df (B':=[.sc (.int .i64 (v))]) (FB x) (by simp only[aQ,aY,bc]) rfl rfl (FB {x with time:=v})
def kg:List SK:=List.replicate 32 .i
def qd:List SK:=List.replicate 33 .i
def rT:List AV:=(au .zero).map .d
def vk:List AV:=(ae .zero).map .d
def vi:List AV:=(aR .zero).map .d
def xo:List AV:=(aO .zero).map .d
def zY:List AV:=(aX .zero).map .d
def vj:List AV:=(vi.set 137 (.nil 1)).set 138 (.nil 33)
def qC:List AV:=xo.set 171 (.nil 33)
def qF:List AV:=(zY.set 35 (.nil 32)).set 36 (.nil 139)
theorem gF{vs:List AV}(h:vs.length=139):ba vj 0 139 vs=some vs:=iE (by simp[vj,vi,dV]) h
theorem cG{vs:List AV}(h:vs.length=172):ba qC 0 172 vs=some vs:=iE (by simp[qC,xo,bB]) h
theorem rU{vs:List AV}(h:vs.length=37):ba qF 0 37 vs=some vs:=iE (by simp[qF,zY,fg]) h
set_option maxRecDepth 10000 in
theorem a0a:toLs vj=some (aR .zero):=by rfl
set_option maxRecDepth 10000 in
theorem ZY:toLs qC=some (aO .zero):=by rfl
theorem a0h:toLs qF=some (aX .zero):=by rfl
def dn(d:Dg):List Value:=d.l.map λb=> .int .u8 b
def dF(x:ak):List Value:=dn x.p++[.int .i64 x.n]
theorem G4: ∀(l:List Value),kV ((l.map D.sc).map .d)=some l
 |[]=>rfl
 |v::l=>by show(kV ((l.map D.sc).map AV.d)).map (v:: ·)=_;rw[G4 l];rfl
theorem Cc(d:Dg):au d=(dn d).map .sc:=by unfold au dn;rw[ll];rfl
theorem LR(x:ak):ae x=(dF x).map .sc:=by unfold ae dF;rw[fF,Cc];rfl
theorem JJ(d:Dg):AV.key true (.d (.agg (au d)))=some (dn d):=by
 show(some ((au d).map AV.d)).bind kV=_;rw[Cc];exact G4 _
theorem JK(x:ak):AV.key true (.d (.agg (ae x)))=some (dF x):=by
 show(some ((ae x).map AV.d)).bind kV=_;rw[LR];exact G4 _
theorem SC:AV.key true (.agg rT)=some (dn .zero):=JJ .zero
theorem SD:AV.key true (.agg vk)=some (dF .zero):=JK .zero
theorem CN(d:Dg):(dn d).length=32:=by unfold dn;rw[aM,d.len]
theorem ZO(x:ak):(dF x).length=33:=by unfold dF;rw[aQ,CN];rfl
theorem E4(k:IntKind): ∀(a b:List Int) (ks:List SK) (us vs:List Value) (r:Bool),a.length=b.length->bJ ks us vs=some r->bJ (List.replicate a.length .i++ks) (a.map (Value.int k)++us) (b.map (Value.int k)++vs)=some (decide (a=b)&&r)
 |[],[],ks,us,vs,r,_,h=>by simpa using h
 |x::a,y::b,ks,us,vs,r,hl,h=>by
  have:=E4 k a b ks us vs r (by simpa using hl) h;rw[aY,s8];show(if k=k then(bJ (List.replicate a.length .i++ks) (a.map (Value.int k)++us) (b.map (Value.int k)++vs)).map ((x==y)&& ·)else none)=_;rw[if_pos rfl,this];show some ((x==y)&&(decide (a=b)&&r))=_;congr 1;by_cases e:x=y
  .subst e;simp
  .simp[e]
 |[],_::_,_,_,_,_,hl,_=>by simp at hl
 |_::_,[],_,_,_,_,hl,_=>by simp at hl
theorem Dg.eq_l{a b:Dg}:decide (a.l=b.l)=decide (a=b):=by
 by_cases h:a=b
 .subst h;simp
 .rw[decide_eq_false h,decide_eq_false λe=>h (Dg.ext e)]
theorem II(a b:Dg):bJ kg (dn a) (dn b)=some (decide (a=b)):=by
 have h:=E4 .u8 a.l b.l [] [] [] true (by rw[a.len,b.len]) rfl;rw[a.len,bq,bq,bq,Bool.and_true,Dg.eq_l]at h;exact h
theorem IJ(a b:ak):bJ qd (dF a) (dF b)=some (decide (a=b)):=by
 have h:=E4 .u8 a.p.l b.p.l [.i] [.int .i64 a.n] [.int .i64 b.n] (a.n==b.n) (by rw[a.p.len,b.p.len]) (by show(if IntKind.i64=IntKind.i64 then(some true).map ((a.n==b.n)&& ·)else none)=_;rw[if_pos rfl];simp);rw[a.p.len,Dg.eq_l]at h;refine h.trans ?_;congr 1;cases a;cases b;simp only[ak.mk.injEq];rw[l6];simp
theorem SA:kg.length=32:=rfl
theorem SB:qd.length=33:=rfl
def rV:List AV:=[.d (.sc (.bool false)),.d (.sc (.string ⟨#[]⟩)),.nil 3]
theorem ec{vs:List AV}(h:vs.length=3):ba rV 0 3 vs=some vs:=iE rfl h
def bx(k:IntKind)(l:List Int):List D:=l.map λn=> .sc (.int k n)
theorem ff(k:IntKind)(l:List Int):(bx k l).length=l.length:=by simp[bx]
theorem pk(k:IntKind)(l:List Int)(i:Nat):(bx k l)[i]?=(l[i]?).map λn=> .sc (.int k n):=by unfold bx;rw[dj]
theorem ox{k:IntKind}{l:List Int}{i:Nat}(h:i<l.length)(v:Int):ba ((bx k l).map .d) i 1 [.d (.sc (.int k v))]=some ((bx k (l.set i v)).map .d):=by
 unfold ba;rw[if_pos ⟨rfl,by simp[bx];omega⟩];congr 1;rw[De,if_pos h];simp[bx]
theorem mL{k:IntKind}{l:List Int}{n:Nat}{vs:List AV}(h:l.length=n)(a:vs.length=n):ba ((bx k l).map .d) 0 n vs=some vs:=iE (by simp[bx,h]) a
theorem Xh(d:Dg):au d=bx .u8 d.l:=rfl
def z64:List AV:=(bx .u32 (List.replicate 64 0)).map .d
def z8:List AV:=(bx .u32 (List.replicate 8 0)).map .d
def NZ:List AV:=(ae .zero++(ae .zero)).map .d
theorem a0b(a0 a x:ak):ba ((ae a0++(ae a)).map .d) 0 33 ((ae x).map .d)=some ((ae x++(ae a)).map .d):=df (B:=ae a0) (B':=ae x) (A:=[]) (C:=(ae a)) (by simp only[bk,bq,bt]) (by simp only[aQ,bc,aN]) (aN _) (aN _) (by simp only[bk,bq,bt])
theorem a0c(a0 a x:ak):ba ((ae a0++(ae a)).map .d) 33 33 ((ae x).map .d)=some ((ae a0++(ae x)).map .d):=df (B:=ae a) (B':=ae x) (A:=(ae a0)) (C:=[]) (by simp only[bk,bq,bt]) (by simp only[aQ,bc,aN]) (aN _) (aN _) (by simp only[bk,bq,bt])
def O0:List AV:=(ae .zero++(ae .zero++(ae .zero++(ae .zero)))).map .d
theorem a0d(a0 a a2 a3 x:ak):ba ((ae a0++(ae a++(ae a2++(ae a3)))).map .d) 0 33 ((ae x).map .d)=some ((ae x++(ae a++(ae a2++(ae a3)))).map .d):=df (B:=ae a0) (B':=ae x) (A:=[]) (C:=(ae a++(ae a2++(ae a3)))) (by simp only[bk,bq,bt]) (by simp only[aQ,bc,aN]) (aN _) (aN _) (by simp only[bk,bq,bt])
theorem a0e(a0 a a2 a3 x:ak):ba ((ae a0++(ae a++(ae a2++(ae a3)))).map .d) 33 33 ((ae x).map .d)=some ((ae a0++(ae x++(ae a2++(ae a3)))).map .d):=df (B:=ae a) (B':=ae x) (A:=(ae a0)) (C:=(ae a2++(ae a3))) (by simp only[bk,bq,bt]) (by simp only[aQ,bc,aN]) (aN _) (aN _) (by simp only[bk,bq,bt])
theorem a0f(a0 a a2 a3 x:ak):ba ((ae a0++(ae a++(ae a2++(ae a3)))).map .d) 66 33 ((ae x).map .d)=some ((ae a0++(ae a++(ae x++(ae a3)))).map .d):=df (B:=ae a2) (B':=ae x) (A:=(ae a0++(ae a))) (C:=(ae a3)) (by simp only[bk,bq,bt]) (by simp only[aQ,bc,aN]) (aN _) (aN _) (by simp only[bk,bq,bt])
theorem a0g(a0 a a2 a3 x:ak):ba ((ae a0++(ae a++(ae a2++(ae a3)))).map .d) 99 33 ((ae x).map .d)=some ((ae a0++(ae a++(ae a2++(ae x)))).map .d):=df (B:=ae a3) (B':=ae x) (A:=(ae a0++(ae a++(ae a2)))) (C:=[]) (by simp only[bk,bq,bt]) (by simp only[aQ,bc,aN]) (aN _) (aN _) (by simp only[bk,bq,bt])
def O2:List AV:=(aj .zero).map .d
theorem a0i(a0 x:Sx):ba ((aj a0).map .d) 0 3 ((aj x).map .d)=some ((aj x).map .d):=df (B:=aj a0) (B':=aj x) (A:=[]) (C:=[]) (by simp only[bk,bq,bt]) (by simp only[aQ,bc,dh]) (dh _) (dh _) (by simp only[bk,bq,bt])
def O3:List AV:=(aj .zero++(aj .zero)).map .d
theorem a0j(a0 a x:Sx):ba ((aj a0++(aj a)).map .d) 0 3 ((aj x).map .d)=some ((aj x++(aj a)).map .d):=df (B:=aj a0) (B':=aj x) (A:=[]) (C:=(aj a)) (by simp only[bk,bq,bt]) (by simp only[aQ,bc,dh]) (dh _) (dh _) (by simp only[bk,bq,bt])
theorem a0k(a0 a x:Sx):ba ((aj a0++(aj a)).map .d) 3 3 ((aj x).map .d)=some ((aj a0++(aj x)).map .d):=df (B:=aj a) (B':=aj x) (A:=(aj a0)) (C:=[]) (by simp only[bk,bq,bt]) (by simp only[aQ,bc,dh]) (dh _) (dh _) (by simp only[bk,bq,bt])
def O4:List AV:=(aj .zero++(aj .zero++(aj .zero))).map .d
theorem a0l(a0 a a2 x:Sx):ba ((aj a0++(aj a++(aj a2))).map .d) 0 3 ((aj x).map .d)=some ((aj x++(aj a++(aj a2))).map .d):=df (B:=aj a0) (B':=aj x) (A:=[]) (C:=(aj a++(aj a2))) (by simp only[bk,bq,bt]) (by simp only[aQ,bc,dh]) (dh _) (dh _) (by simp only[bk,bq,bt])
theorem a0m(a0 a a2 x:Sx):ba ((aj a0++(aj a++(aj a2))).map .d) 3 3 ((aj x).map .d)=some ((aj a0++(aj x++(aj a2))).map .d):=df (B:=aj a) (B':=aj x) (A:=(aj a0)) (C:=(aj a2)) (by simp only[bk,bq,bt]) (by simp only[aQ,bc,dh]) (dh _) (dh _) (by simp only[bk,bq,bt])
theorem a0n(a0 a a2 x:Sx):ba ((aj a0++(aj a++(aj a2))).map .d) 6 3 ((aj x).map .d)=some ((aj a0++(aj a++(aj x))).map .d):=df (B:=aj a2) (B':=aj x) (A:=(aj a0++(aj a))) (C:=[]) (by simp only[bk,bq,bt]) (by simp only[aQ,bc,dh]) (dh _) (dh _) (by simp only[bk,bq,bt])
def O5:List AV:=(aj .zero++(aj .zero++(aj .zero++(aj .zero)))).map .d
theorem a0o(a0 a a2 a3 x:Sx):ba ((aj a0++(aj a++(aj a2++(aj a3)))).map .d) 0 3 ((aj x).map .d)=some ((aj x++(aj a++(aj a2++(aj a3)))).map .d):=df (B:=aj a0) (B':=aj x) (A:=[]) (C:=(aj a++(aj a2++(aj a3)))) (by simp only[bk,bq,bt]) (by simp only[aQ,bc,dh]) (dh _) (dh _) (by simp only[bk,bq,bt])
theorem a0p(a0 a a2 a3 x:Sx):ba ((aj a0++(aj a++(aj a2++(aj a3)))).map .d) 3 3 ((aj x).map .d)=some ((aj a0++(aj x++(aj a2++(aj a3)))).map .d):=df (B:=aj a) (B':=aj x) (A:=(aj a0)) (C:=(aj a2++(aj a3))) (by simp only[bk,bq,bt]) (by simp only[aQ,bc,dh]) (dh _) (dh _) (by simp only[bk,bq,bt])
theorem a0q(a0 a a2 a3 x:Sx):ba ((aj a0++(aj a++(aj a2++(aj a3)))).map .d) 6 3 ((aj x).map .d)=some ((aj a0++(aj a++(aj x++(aj a3)))).map .d):=df (B:=aj a2) (B':=aj x) (A:=(aj a0++(aj a))) (C:=(aj a3)) (by simp only[bk,bq,bt]) (by simp only[aQ,bc,dh]) (dh _) (dh _) (by simp only[bk,bq,bt])
theorem a0r(a0 a a2 a3 x:Sx):ba ((aj a0++(aj a++(aj a2++(aj a3)))).map .d) 9 3 ((aj x).map .d)=some ((aj a0++(aj a++(aj a2++(aj x)))).map .d):=df (B:=aj a3) (B':=aj x) (A:=(aj a0++(aj a++(aj a2)))) (C:=[]) (by simp only[bk,bq,bt]) (by simp only[aQ,bc,dh]) (dh _) (dh _) (by simp only[bk,bq,bt])
def O6:List AV:=(aj .zero++(aj .zero++(aj .zero++(aj .zero++(aj .zero++(aj .zero)))))).map .d
theorem a0s(a0 a a2 a3 a4 a5 x:Sx):ba ((aj a0++(aj a++(aj a2++(aj a3++(aj a4++(aj a5)))))).map .d) 0 3 ((aj x).map .d)=some ((aj x++(aj a++(aj a2++(aj a3++(aj a4++(aj a5)))))).map .d):=df (B:=aj a0) (B':=aj x) (A:=[]) (C:=(aj a++(aj a2++(aj a3++(aj a4++(aj a5)))))) (by simp only[bk,bq,bt]) (by simp only[aQ,bc,dh]) (dh _) (dh _) (by simp only[bk,bq,bt])
theorem a0t(a0 a a2 a3 a4 a5 x:Sx):ba ((aj a0++(aj a++(aj a2++(aj a3++(aj a4++(aj a5)))))).map .d) 3 3 ((aj x).map .d)=some ((aj a0++(aj x++(aj a2++(aj a3++(aj a4++(aj a5)))))).map .d):=df (B:=aj a) (B':=aj x) (A:=(aj a0)) (C:=(aj a2++(aj a3++(aj a4++(aj a5))))) (by simp only[bk,bq,bt]) (by simp only[aQ,bc,dh]) (dh _) (dh _) (by simp only[bk,bq,bt])
theorem a0u(a0 a a2 a3 a4 a5 x:Sx):ba ((aj a0++(aj a++(aj a2++(aj a3++(aj a4++(aj a5)))))).map .d) 6 3 ((aj x).map .d)=some ((aj a0++(aj a++(aj x++(aj a3++(aj a4++(aj a5)))))).map .d):=df (B:=aj a2) (B':=aj x) (A:=(aj a0++(aj a))) (C:=(aj a3++(aj a4++(aj a5)))) (by simp only[bk,bq,bt]) (by simp only[aQ,bc,dh]) (dh _) (dh _) (by simp only[bk,bq,bt])
theorem a0v(a0 a a2 a3 a4 a5 x:Sx):ba ((aj a0++(aj a++(aj a2++(aj a3++(aj a4++(aj a5)))))).map .d) 9 3 ((aj x).map .d)=some ((aj a0++(aj a++(aj a2++(aj x++(aj a4++(aj a5)))))).map .d):=df (B:=aj a3) (B':=aj x) (A:=(aj a0++(aj a++(aj a2)))) (C:=(aj a4++(aj a5))) (by simp only[bk,bq,bt]) (by simp only[aQ,bc,dh]) (dh _) (dh _) (by simp only[bk,bq,bt])
theorem a0w(a0 a a2 a3 a4 a5 x:Sx):ba ((aj a0++(aj a++(aj a2++(aj a3++(aj a4++(aj a5)))))).map .d) 12 3 ((aj x).map .d)=some ((aj a0++(aj a++(aj a2++(aj a3++(aj x++(aj a5)))))).map .d):=df (B:=aj a4) (B':=aj x) (A:=(aj a0++(aj a++(aj a2++(aj a3))))) (C:=(aj a5)) (by simp only[bk,bq,bt]) (by simp only[aQ,bc,dh]) (dh _) (dh _) (by simp only[bk,bq,bt])
theorem a0x(a0 a a2 a3 a4 a5 x:Sx):ba ((aj a0++(aj a++(aj a2++(aj a3++(aj a4++(aj a5)))))).map .d) 15 3 ((aj x).map .d)=some ((aj a0++(aj a++(aj a2++(aj a3++(aj a4++(aj x)))))).map .d):=df (B:=aj a5) (B':=aj x) (A:=(aj a0++(aj a++(aj a2++(aj a3++(aj a4)))))) (C:=[]) (by simp only[bk,bq,bt]) (by simp only[aQ,bc,dh]) (dh _) (dh _) (by simp only[bk,bq,bt])
theorem XV(x:Sx):ba ((aj x).map .d) 2 1 [.d (.sl 3 [])]=some ((aj (.mk x.isL x.atom [])).map .d):=tw x []
theorem XW(x a0:Sx):ba ((aj x).map .d) 2 1 [.d (.sl 3 [aj a0])]=some ((aj (.mk x.isL x.atom [a0])).map .d):=tw x [a0]
theorem XX(x a0 a:Sx):ba ((aj x).map .d) 2 1 [.d (.sl 3 [aj a0,aj a])]=some ((aj (.mk x.isL x.atom [a0,a])).map .d):=tw x [a0,a]
theorem XY(x a0 a a2:Sx):ba ((aj x).map .d) 2 1 [.d (.sl 3 [aj a0,aj a,aj a2])]=some ((aj (.mk x.isL x.atom [a0,a,a2])).map .d):=tw x [a0,a,a2]
theorem XZ(x a0 a a2 a3:Sx):ba ((aj x).map .d) 2 1 [.d (.sl 3 [aj a0,aj a,aj a2,aj a3])]=some ((aj (.mk x.isL x.atom [a0,a,a2,a3])).map .d):=tw x [a0,a,a2,a3]
theorem Y0(x a0 a a2 a3 a4:Sx):ba ((aj x).map .d) 2 1 [.d (.sl 3 [aj a0,aj a,aj a2,aj a3,aj a4])]=some ((aj (.mk x.isL x.atom [a0,a,a2,a3,a4])).map .d):=tw x [a0,a,a2,a3,a4]
theorem Y1(x a0 a a2 a3 a4 a5:Sx):ba ((aj x).map .d) 2 1 [.d (.sl 3 [aj a0,aj a,aj a2,aj a3,aj a4,aj a5])]=some ((aj (.mk x.isL x.atom [a0,a,a2,a3,a4,a5])).map .d):=tw x [a0,a,a2,a3,a4,a5]
end Go.Proofs.Q
