/- Part of a proof. -/
import Derived.Test.YtfoljakejdgfcaaGreatDoorPAF
set_option linter.unusedVariables false
set_option linter.unusedSimpArgs false
namespace Go.Proofs.Q
open Go Go.RowKit Go.Ab Go.Bb Go.Proofs.Lg
def LZ:=PLift.up (ai (ai (ai (ai (ai (ai (ai (ai @decide_true (ai @Zw @Zt)) (ai (ai @Zv @Zo) (ai @Zs @Zq))) (ai (ai @Zu (ai @Z8 @lF.eq_1)) (ai (ai
 @lF.eq_2 @lF.eq_3) (ai @Mo @CI.sem.eq_1)))) (ai (ai (ai @CI.sem.eq_2 (ai @CI.sem.eq_3 @CI.sem.eq_4)) (ai (ai @CI.sem.eq_5 @CI.sem.eq_6) (ai @CI.sem.eq_7 @CI.sem.eq_8))) (ai
 (ai @CI.sem.eq_9 (ai @CI.sem.eq_10 @CI.sem.eq_11)) (ai (ai @CI.sem.eq_12 @CI.sem.eq_13) (ai @CI.sem.eq_14 @CI.sem.eq_15))))) (ai (ai (ai (ai @CI.sem.eq_16 (ai @CI.sem.eq_17
 @CI.sem.eq_18)) (ai (ai @CI.sem.eq_19 @CI.sem.eq_20) (ai @CI.sem.eq_21 @CI.sem.eq_22))) (ai (ai @CI.sem.eq_23 (ai @CI.sem.eq_24 @CI.sem.eq_25)) (ai (ai @CI.sem.eq_26 @CI.sem.eq_27)
 (ai @CI.sem.eq_28 @CI.sem.eq_29)))) (ai (ai (ai @CI.sem.eq_30 (ai @CI.sem.eq_31 @CI.sem.eq_32)) (ai (ai @CI.sem.eq_33 @CI.sem.eq_34) (ai @CI.sem.eq_35 @CI.sem.eq_36))) (ai (ai (ai
 @CI.sem.eq_37 @CI.sem.eq_38) (ai @CI.sem.eq_39 @CI.sem.eq_40)) (ai (ai @CI.sem.eq_41 @CI.sem.eq_42) (ai @CI.sem.eq_43 @CI.sem.eq_44)))))) (ai (ai (ai (ai (ai @CI.sem.eq_45 (ai
 @CI.touch.eq_1 @CI.touch.eq_2)) (ai (ai @CI.touch.eq_3 @CI.touch.eq_4) (ai @CI.touch.eq_5 @CI.touch.eq_6))) (ai (ai @CI.touch.eq_7 (ai @CI.touch.eq_8 @CI.touch.eq_9)) (ai (ai
 @CI.touch.eq_10 @CI.touch.eq_11) (ai @CI.touch.eq_12 @CI.touch.eq_13)))) (ai (ai (ai @CI.touch.eq_14 (ai @CI.touch.eq_15 @CI.touch.eq_16)) (ai (ai @CI.touch.eq_17 @CI.touch.eq_18)
 (ai @CI.touch.eq_19 @CI.touch.eq_20))) (ai (ai @mV.eq_1 (ai @mV.eq_2 @mV.eq_3)) (ai (ai @CI.use.eq_1 @CI.use.eq_2) (ai @CI.use.eq_3 @CI.use.eq_4))))) (ai (ai (ai (ai
 @CI.use.eq_5 (ai @CI.use.eq_6 @CI.use.eq_7)) (ai (ai @AV.vecId.eq_1 @AV.vecId.eq_2) (ai @AV.vecId.eq_3 @AV.hdl.eq_1))) (ai (ai @AV.hdl.eq_2 (ai @AV.hdl.eq_3 @AV.hdl.eq_4)) (ai (ai
 @AV.hdl.eq_5 @AV.hdl.eq_6) (ai @AV.hdl.eq_7 @fR.eq_1)))) (ai (ai (ai @X.ev.eq_1 (ai @X.ev.eq_2 @jb.eq_1)) (ai (ai @jb.eq_2 @Go.Bb.look.eq_1) (ai @Go.Bb.look.eq_2
 @lQ.eq_1))) (ai (ai (ai @ux.eq_1 @ret.eq_1) (ai @AV.bool?.eq_1 @AV.bool?.eq_2)) (ai (ai @AV.int?.eq_1 @AV.int?.eq_2) (ai @AV.num?.eq_1 @AV.num?.eq_2))))))) (ai (ai (ai (ai
 (ai (ai @AV.str?.eq_1 (ai @AV.str?.eq_2 @AV.sc?.eq_1)) (ai (ai @AV.sc?.eq_2 @kZ.eq_1) (ai @kZ.eq_2 @kZ.eq_3))) (ai (ai @slA.eq_1 (ai @slA.eq_2 @slA.eq_3)) (ai (ai @slA.eq_4
 @slA.eq_5) (ai @pJ.eq_1 @pJ.eq_2)))) (ai (ai (ai @pK.eq_1 (ai @pK.eq_2 @eZ.eq_1)) (ai (ai @eZ.eq_2 @eZ.eq_3) (ai @eZ.eq_4 @eZ.eq_5))) (ai (ai @eZ.eq_6
 (ai @eZ.eq_7 @eZ.eq_8)) (ai (ai @eZ.eq_9 @eZ.eq_10) (ai @eZ.eq_11 @eZ.eq_12))))) (ai (ai (ai (ai @eZ.eq_13 (ai @eZ.eq_14 @eZ.eq_15)) (ai (ai @eZ.eq_16
 @eZ.eq_17) (ai @eZ.eq_18 @eZ.eq_19))) (ai (ai @eZ.eq_20 (ai @eZ.eq_21 @eZ.eq_22)) (ai (ai @eZ.eq_23 @eZ.eq_24) (ai @eZ.eq_25 @lL.eq_1)))) (ai (ai (ai @lL.eq_2
 (ai @lL.eq_3 @lL.eq_4)) (ai (ai @oW.eq_1 @oW.eq_2) (ai @oW.eq_3 @oW.eq_4))) (ai (ai (ai @ua.eq_1 @ua.eq_2) (ai @ua.eq_3 @ua.eq_4)) (ai (ai @wa.eq_1
 @wa.eq_2) (ai @wa.eq_3 @iW.eq_1)))))) (ai (ai (ai (ai (ai @iW.eq_2 (ai @iW.eq_3 @iW.eq_4)) (ai (ai @iW.eq_5 @iW.eq_6) (ai @iW.eq_7 @iW.eq_8))) (ai (ai
 @iW.eq_9 (ai @iW.eq_10 @iW.eq_11)) (ai (ai @qy.eq_1 @qy.eq_2) (ai @qy.eq_3 @qy.eq_4)))) (ai (ai (ai @qy.eq_5 (ai @ue.eq_1 @ue.eq_2)) (ai (ai
 @ue.eq_3 @ue.eq_4) (ai @ud.eq_1 @ud.eq_2))) (ai (ai (ai @ud.eq_3 @oV.eq_1) (ai @qm.eq_1 @qm.eq_2)) (ai (ai @Bw.eq_1 @Bw.eq_2) (ai @mX.eq_1
 @mX.eq_2))))) (ai (ai (ai (ai @fX.eq_1 (ai @fX.eq_2 @s8.eq_1)) (ai (ai @s8.eq_2 @tP.eq_1) (ai @tP.eq_2 @lB.eq_1))) (ai (ai @lB.eq_2 (ai @qY.eq_1 @vx.eq_1))
 (ai (ai @iI.eq_1 @iI.eq_2) (ai @iI.eq_3 @iI.eq_4)))) (ai (ai (ai @Bz.eq_1 (ai @qC.eq_1 @qC.eq_2)) (ai (ai @qC.eq_3 @l6.eq_1) (ai @l6.eq_2
 @l6.eq_3))) (ai (ai (ai @l6.eq_4 @l6.eq_5) (ai @l6.eq_6 @BY.eq_1)) (ai (ai @BZ.eq_1 @oZ.eq_1) (ai @oZ.eq_2 @fc.eq_1)))))))) (ai (ai (ai (ai (ai
 (ai (ai @fc.eq_2 (ai @p6.eq_1 @p6.eq_2)) (ai (ai @pO.eq_1 @pO.eq_2) (ai @nM.eq_1 @nM.eq_2))) (ai (ai @fp.eq_1 (ai @fp.eq_2 @la.eq_1)) (ai (ai
 @la.eq_2 @pG.eq_1) (ai @pG.eq_2 @pG.eq_3)))) (ai (ai (ai @wg.eq_1 (ai @sv.eq_1 @sv.eq_2)) (ai (ai @wh.eq_1 @wh.eq_2) (ai @Fq.eq_1 @Fq.eq_2))) (ai (ai
 @bu.eq_1 (ai @bu.eq_2 @bu.eq_3)) (ai (ai @bu.eq_4 @bu.eq_5) (ai @bu.eq_6 @bu.eq_7))))) (ai (ai (ai (ai @bu.eq_8 (ai @cU.eq_1 @cU.eq_2)) (ai (ai
 @chunk.eq_1 @chunk.eq_2) (ai @AV.toD.eq_1 @AV.toD.eq_2))) (ai (ai @AV.toL.eq_1 (ai @AV.toL.eq_2 @AV.toL.eq_3)) (ai (ai @AV.toL.eq_4 @AV.toL.eq_5) (ai @toLs.eq_1 @toLs.eq_2)))) (ai
 (ai (ai @AV.cells.eq_1 (ai @AV.cells.eq_2 @AV.cells.eq_3)) (ai (ai @AV.row.eq_1 @AV.row.eq_2) (ai @AV.row.eq_3 @AV.leaf.eq_1))) (ai (ai (ai @AV.leaf.eq_2 @AV.leaf.eq_3) (ai
 @AV.leaf.eq_4 @D.leaf.eq_1)) (ai (ai @D.leaf.eq_2 @D.leaf.eq_3) (ai @D.leaf.eq_4 @D.leaf.eq_5)))))) (ai (ai (ai (ai (ai @Go.Value.oneCell'.eq_1 (ai @Go.Value.oneCell'.eq_2
 @Go.Value.oneCell'.eq_3)) (ai (ai @lu.eq_1 @lu.eq_2) (ai @bO.{0,0} @eg.{0,0}))) (ai (ai @eY.{0,0} (ai @sV.{0,0}
 @dF.{0,0})) (ai (ai @Option.bind_none.{0,0} @ic.{0}) (ai @kL.{0} @oo.{0})))) (ai (ai (ai @jV.{0} (ai
 @false_implies @true_implies)) (ai (ai @and_true @true_and) (ai @and_self @if_true.{1}))) (ai (ai @if_false.{1} (ai @List.set_cons_zero.{0} @List.set_cons_succ.{0})) (ai (ai
 @aU.{0} @aY.{0}) (ai @List.reverse_cons.{0} @List.reverse_nil.{0}))))) (ai (ai (ai (ai @bn.{0} (ai @ma.{0}
 @jT.{0})) (ai (ai @List.take_zero.{0} @List.drop_succ_cons.{0}) (ai @jQ.{0} @Np))) (ai (ai @No (ai @Bool.not_true @Bool.not_false)) (ai (ai
 @Bool.true_and @Bool.and_true) (ai @Bool.false_and @Bool.and_false)))) (ai (ai (ai @Bool.not_not (ai @Bool.false_bne @Bool.true_bne)) (ai (ai @aL.{0,0}
 @gW) (ai @Int.natCast_nonneg @cC.{0,0}))) (ai (ai (ai @eq_self.{1} @lr.eq_1) (ai @lr.eq_2 @List.getElem?_cons_zero.{0})) (ai (ai
 @List.getElem?_cons_succ.{0} @aN.{0}) (ai @Option.some.injEq.{0} @D.sc.injEq))))))) (ai (ai (ai (ai (ai (ai @Go.Value.bool.injEq (ai @AV.d.injEq
 @Go.Value.int.injEq)) (ai (ai @D.sl.injEq @exists_eq_left'.{1}) (ai @exists_eq_left.{1} @Bool.false_or))) (ai (ai @Bool.true_or (ai @Option.isNone_some.{0} @Option.isNone_none.{0}))
 (ai (ai @CI.mark.eq_1 @CI.wr.eq_1) (ai @CI.wr.eq_2 @CI.wr.eq_3)))) (ai (ai (ai @CI.wr.eq_4 (ai @CI.wr.eq_5 @CI.wr.eq_6)) (ai (ai @CI.wr.eq_7 @AV.rowId.eq_1) (ai @AV.rowId.eq_2
 @AV.rowId.eq_3))) (ai (ai @AV.rowId.eq_4 (ai @sb.eq_1 @xi.eq_1)) (ai (ai @fo.eq_1 @Zx) (ai @lR @LX))))) (ai (ai (ai (ai (ai @Zg (ai @Zn (ai @Zi (ai @Zl (ai @Zh (ai @Zf (ai @Ze (ai @Zd (ai @Zc (ai @Zb (ai @Za (ai @Z9 @Zm)))))))))))) (ai @Zj @Zk)) (ai (ai
 @Mn @MZ) (ai @Md @Zr))) (ai (ai @Mk (ai @Mj @wV)) (ai (ai @Mm @ME) (ai @Ms @Mr)))) (ai (ai (ai @My (ai @MH @MK))
 (ai (ai @Mz @Mt) (ai @MJ @MG))) (ai (ai (ai @MM @ML) (ai @MC @Mx)) (ai (ai @MF @MO) (ai @MP @MR)))))) (ai (ai
 (ai (ai (ai @MQ (ai @MA @MS)) (ai (ai @Mw @Mu) (ai @MN @Me))) (ai (ai @XK (ai @wi @iP.eq_1)) (ai (ai @iP.eq_2
 @iP.SameO.eq_1) (ai @iP.SameO.eq_2 @UL)))) (ai (ai (ai @OW (ai @OV @v7)) (ai (ai @N4 @LC) (ai @tE @aggA.eq_1))) (ai (ai (ai
 @kb.eq_1 @kb.eq_2) (ai @kb.eq_3 @Qh)) (ai (ai @Qk @Pd) (ai @NQ @xT.eq_1))))) (ai (ai (ai (ai @xF.eq_1 (ai @ER.eq_1 @ES.eq_1)) (ai (ai @wE.eq_1
 @wE.eq_2) (ai @wE.eq_3 @uc.eq_1))) (ai (ai @uc.eq_2 (ai @uc.eq_3 @uc.eq_4)) (ai (ai @Kz.eq_1 @EO.eq_1) (ai @wb.eq_1 @wb.eq_2)))) (ai (ai (ai @wb.eq_3
 (ai @sD.eq_1 @sD.eq_2)) (ai (ai @sE.eq_1 @sE.eq_2) (ai @vG.eq_1 @vG.eq_2))) (ai (ai (ai @AV.keyK.eq_1 @C0.eq_1) (ai @EP.eq_1 @qx.eq_1)) (ai (ai
 @qx.eq_2 @qx.eq_3) (ai @natLit @Go.undef.eq_1)))))))))
theorem wy:type_of% LZ.down:=LZ.down
def JT:=PLift.up (ai (ai (ai (ai (ai (ai (ai @bc (ai @Xa @ch)) (ai @aM (ai @dN @c9))) (ai (ai @iw (ai @bJ @kq)) (ai @qu (ai @Km
 @Wz)))) (ai (ai (ai @Xb (ai @Xq @Xc)) (ai @Xd (ai @Xe @Xf))) (ai (ai @EB (ai @WE @WB)) (ai (ai @mF @mG) (ai @Ki @Wy)))))
 (ai (ai (ai (ai @W2 (ai @W3 @W4)) (ai @Wh (ai @Wi @W6))) (ai (ai @W7 (ai @Wj @Wk)) (ai @W8 (ai @W9 @Wa)))) (ai (ai
 (ai @Wb (ai @Wl @We)) (ai @Wc (ai @Wf @Wg))) (ai (ai @Wd (ai @W5 @Ko)) (ai (ai @WX @WQ) (ai @Kp @Kq))))))
 (ai (ai (ai (ai (ai @Kr (ai @Ks @Kt)) (ai @Kx (ai @X9 @WY))) (ai (ai @WZ (ai @X0 @X1)) (ai @X2 (ai @X3 @X4)))) (ai
 (ai (ai @X5 (ai @Kg @VZ)) (ai @Vq (ai @Vr @VD))) (ai (ai @VJ (ai @Vs @Vv)) (ai (ai @VK @VL) (ai @Vw @Vx)))))
 (ai (ai (ai (ai @VM (ai @VE @Vy)) (ai @Vz (ai @VA @VB))) (ai (ai @VC (ai @VF @VG)) (ai @Vt (ai @VH @VI))))
 (ai (ai (ai @Vu (ai @EE @WO)) (ai @WG (ai @WH @WI))) (ai (ai @WJ (ai @Xn @Xo)) (ai (ai @qw @Xp) (ai @WC
 @WD))))))) (ai (ai (ai (ai (ai (ai @fS (ai @Wm @Wn)) (ai @Wo (ai @Wp @Wq))) (ai (ai @Wr (ai @Ws @Wt)) (ai @Wu (ai @Wx
 @BI)))) (ai (ai (ai @Ww (ai @Kj @Wv)) (ai @WR (ai @WS @WT))) (ai (ai @WV (ai @Ku @WW)) (ai (ai @Kv @WU) (ai @X6
 @X7))))) (ai (ai (ai (ai @X8 (ai @VN @VO)) (ai @VQ (ai @VR @VS))) (ai (ai @VT (ai @VU @VV)) (ai @VW (ai @VX
 @VP)))) (ai (ai (ai @VY (ai @Kh @jI)) (ai @WK (ai @WL @WM))) (ai (ai @WN (ai @Xg @Xh)) (ai (ai @Xi @Xj) (ai @Xk
 @Xl)))))) (ai (ai (ai (ai (ai @Xm (ai @Zz @Zy)) (ai @ZG (ai @I3 @I4))) (ai (ai @PM (ai @PN @Cc)) (ai @Z4 (ai @Hg
 @Hh)))) (ai (ai (ai @PK (ai @PL @cN.eq_1)) (ai @dW.eq_1 (ai @nO.eq_1 @eu.eq_1))) (ai (ai @sJ.eq_1 (ai @ZX @dY)) (ai (ai @ZA @ZB) (ai
 @M5.eq_1 @ZC))))) (ai (ai (ai (ai @ZD (ai @ZE @ZF)) (ai @M6.eq_1 (ai @ZH @fv.eq_1))) (ai (ai @ZI (ai @ZJ @uz.eq_1)) (ai @ZK (ai
 @ZL @ZM)))) (ai (ai (ai @FG.eq_1 (ai @ZN @ZO)) (ai @ZP (ai @ZQ @Cl.eq_1))) (ai (ai @ZR (ai @ZS @ZT)) (ai (ai @ZU @ZV) (ai
 @ZW @FH.eq_1))))))))
theorem qg:type_of% JT.down:=JT.down
end Go.Proofs.Q
namespace Go.Proofs.Q
open Go Go.Proofs.Lg
abbrev W(n:Int):Int:=IntKind.i64.wrap n
abbrev aZ:=ByteArray
def im:List (Int×Int)→Int
 |x::l=>if x.1<x.2 then-1 else if x.2<x.1 then 1 else im l
 |[]=>0
def cQ(a b:Dg):Int:=im (a.l.zip b.l)
def fU{α:Type}[DecidableEq α]:List (α×α)→Bool
 |x::l=>if x.1=x.2 then fU l else false
 |[]=>true
def same{α:Type}[DecidableEq α](a b:List α):Bool:=if a.length=b.length then fU (a.zip b)else false
def hasB:List UInt8→Nat→Nat→Bool
 |[],_,_=>true
 |c::l,x,y=>if c.toNat=x∨c.toNat=y then false else hasB l x y
def clean(b:aZ)(x y:Nat):Bool:=hasB b.data.toList x y
def kj(b:aZ):Bool:=decide ((b.size:Int)≤1000)&&clean b 10 0
def uu:List aZ→Int→Int
 |[],n=>n
 |x::l,n=>uu l (W (n+x.size))
def tJ(l:List aZ):Bool:=decide (40<(l.length:Int))||decide (3000<uu l 0)
def tR(c:UInt8):Bool:=(decide (97≤(c.toNat:Int))&&decide ((c.toNat:Int)≤122))||(decide (65≤(c.toNat:Int))&&decide ((c.toNat:Int)≤90))||(decide (48≤(c.toNat:Int))&&decide ((c.toNat:Int)≤57))||decide ((c.toNat:Int)=46)||decide ((c.toNat:Int)=95)||decide ((c.toNat:Int)=45)
def mC:List UInt8→Bool
 |[]=>true
 |c::l=>if tR c then mC l else false
def isName(b:aZ):Bool:=mC b.data.toList&&decide (1≤(b.size:Int))&&decide ((b.size:Int)≤40)&& !decide (b=⟨#[46]⟩)&& !decide (b=⟨#[46,46]⟩)
def isZero(d:Dg):Bool:=decide (d= .zero)
def en(a b:ar):Int:=if cQ a.p b.p≠0 then cQ a.p b.p else if a.n<b.n then-1 else if b.n<a.n then 1 else 0
def iR:List ar→Bool
 |x::y::r=>if 0≤en x y then false else iR (y::r)
 |_=>true
def ki(x:ar):List ar→Nat→Nat
 |[],k=>k
 |y::l,k=>if en y x<0 then ki x l (k+1)else k
def tM(l:List ar)(x:ar):List ar:=if l[ki x l 0]?=some x then l else l.take (ki x l 0)++x::l.drop (ki x l 0)
def gC:List ar→ar→Bool
 |[],_=>false
 |y::l,x=>if y=x then true else gC l x
def ku(c:af):af where
 kind:=c.kind
 file:=if 2≤c.kind∧c.kind≤6 then .zero else c.file
 type:=if c.kind=1 then 0 else c.type
 parent:=if c.kind=2 then .zero else c.parent
 name:=if c.kind=2 then⟨#[]⟩else c.name
 mode:=if c.kind=3 then 0 else c.mode
 data:=if c.kind=4 then⟨#[]⟩else c.data
 after:=if c.kind=5∨c.kind=6 then .zero else c.after
 before:=if c.kind=5∨c.kind=6 then .zero else c.before
 lines:=if c.kind=5 then[]else c.lines
 over:=if c.kind≠1∧c.kind≠5 then[]else c.over
def nc(c:af):Bool:=decide (c.file= .zero)&&(decide (c.type=0)&&(decide (c.parent= .zero)&&(decide (c.name=⟨#[]⟩)&&(decide (c.mode=0)&&(decide (c.data=⟨#[]⟩)&&(decide (c.after= .zero)&&(decide (c.before= .zero)&&(decide ((c.lines.length:Int)=0)&&decide ((c.over.length:Int)=0)))))))))
def km:List aZ→Int
 |[]=>0
 |x::l=>if kj x then km l else 3
def mB(l:List aZ):Int:=if(l.length:Int)=0 then 1 else if 2000<(l.length:Int)then 4 else km l
def gm(c:af):Int:=
 if c.kind<1∨7<c.kind then 8
 else if nc (ku c)=false then 1
 else if c.kind=1∧(c.type<1∨4<c.type)then 8
 else if c.kind=2∧isName c.name=false then 5
 else if c.kind=3∧(c.mode<0∨511<c.mode)then 2
 else if 65536<(c.data.size:Int)then 4
 else if c.kind=5 then mB c.lines
 else if c.kind=7∧(c.over.length:Int)=0 then 1
 else if 400<(c.over.length:Int)then 4
 else if iR c.over=false then 9
 else 0
def allowed(x:ar)(first:Int):Bool:=if isZero x.p then decide (0≤x.n)&&decide (x.n<first)else decide (0≤x.n)&&decide (x.n<100000)
def wJ(k:Int):Int:=if k=7 then 0 else k
def mJ(k:Int):Bool:=decide (k=5)||decide (k=6)
def lE(k:Int)(x:aJ):Bool:=if x.kind≠1 then false else if mJ k then decide (x.type=1)else decide (k≠4)||(decide (x.type=2)||decide (x.type=3))
def vm(f:ar)(x:aJ):Bool:=decide (x.kind=5)&&decide (x.file=f)
def ri(k:Int)(f:ar)(x:aJ):Bool:=decide (wJ k=0)||(decide (x.kind=wJ k)&&decide (x.file=f))
def mE(x:ar)(own:List aJ)(a:Bool):Int:=if allowed x own.length=false then 7 else if isZero x.p&& !a then 8 else 0
def jB(own:List aJ)(x:ar):aJ:=if isZero x.p=true∧0≤x.n∧x.n<own.length then(own[x.n.toNat]?).getD .zero else .zero
def xQ(c:af)(own:List aJ)(x:ar):Int:=mE x own (decide (x=c.file)||vm c.file (jB own x))
def nA(c:af)(own:List aJ):List ar→Int
 |[]=>0
 |x::l=>if mE x own (ri c.kind c.file (jB own x))≠0 then mE x own (ri c.kind c.file (jB own x))else nA c own l
def vB(c:af):Int:=if c.kind=2∧c.parent=c.file then 20 else if mJ c.kind=true∧c.after=c.before∧(c.kind=6∨c.after≠c.file)then 1 else 0
def cF(a b:Int):Int:=if a≠0 then a else b
def ug(c:af)(own:List aJ):Int:=if 2≤c.kind∧c.kind≤6 then mE c.file own (lE c.kind (jB own c.file))else 0
def uh(c:af)(own:List aJ):Int:=if c.kind=2∧c.parent≠⟨.zero,-1⟩then mE c.parent own (decide ((jB own c.parent).kind=1)&&decide ((jB own c.parent).type=4))else 0
def pW(c:af)(own:List aJ):List ar→Int
 |[]=>0
 |x::l=>if xQ c own x≠0 then xQ c own x else pW c own l
def sr(c:af)(own:List aJ):Int:=if mJ c.kind=true then pW c own [c.after,c.before]else 0
def jJ(c:af)(own:List aJ):Int:=cF (ug c own) (cF (uh c own) (cF (sr c own) (cF (nA c own c.over) (vB c))))
def dL(n:Int):ar:=⟨.zero,n⟩
def vE(c:af)(first:Nat)(i:Nat)(s:aZ):aJ:={aJ.zero with id:=dL (first+i),kind:=5,file:=c.file,text:=s}
def oC(c:af)(first k i:Nat):aJ:={aJ.zero with id:=dL (first+k+i),kind:=6,file:=c.file,fro:=if 0<i then dL (first+i-1)else c.after,til:=if i<k then dL (first+i)else c.before}
def fF(c:af)(first:Nat):List aJ:=
 if c.kind=1 then[{aJ.zero with id:=dL first,kind:=1,file:=dL first,type:=c.type}]
 else if c.kind=2 then[{aJ.zero with id:=dL first,kind:=2,file:=c.file,parent:=c.parent,name:=c.name,over:=c.over}]
 else if c.kind=3 then[{aJ.zero with id:=dL first,kind:=3,file:=c.file,mode:=c.mode,over:=c.over}]
 else if c.kind=4 then[{aJ.zero with id:=dL first,kind:=4,file:=c.file,data:=c.data,over:=c.over}]
 else if c.kind=6 then[{aJ.zero with id:=dL first,kind:=6,file:=c.file,fro:=c.after,til:=c.before,over:=c.over}]
 else if c.kind=7 then[{aJ.zero with id:=dL first,kind:=7,over:=c.over}]
 else(c.lines.mapIdx (vE c first))++(List.range (c.lines.length+1)).map (oC c first c.lines.length)
def eU:List af→List aJ→List aJ×Int
 |[],own=>(own,0)
 |c::l,own=>if gm c≠0 then([],gm c)else if jJ c own≠0 then([],jJ c own)else eU l (own++fF c own.length)
def il:Option Dg→List Dg→Int
 |_,[]=>0
 |p,d::l=>if isZero d then 1 else if(p.map fun q=>decide (0≤cQ q d))=some true then 9 else il (some d) l
def fN(l:List Dg):Int:=if 100<(l.length:Int)then 4 else il none l
def dT(p:b9):List aJ×Int:=
 if isName p.author=false then([],5)
 else if 1000<(p.message.size:Int)then([],4)
 else if p.time<0∨1099511627776<p.time then([],2)
 else if fN p.deps≠0 then([],fN p.deps)
 else if(p.changes.length:Int)=0 then([],1)
 else if 400<(p.changes.length:Int)then([],4)
 else eU p.changes []
end Go.Proofs.Q
namespace Go.Proofs.Q
open Go Go.Bb Go.Proofs.Lg
open Go.Ab (D)
def str(l:List UInt8):aZ:=⟨l.toArray⟩
def oB(n:Nat):UInt8:=UInt8.ofNat (48+n % 10)
def kg:Nat→Nat→List UInt8
 |0,n=>[oB n]
 |f+1,n=>if n<10 then[oB n]else kg f (n/10)++[oB n]
def dec(n:Int):aZ:=if n<0 then str (45::kg 19 (-n).toNat)else str (kg 19 n.toNat)
def eW:Nat→Sx→Prop
 |0,_=>False
 |d+1,.mk b a l=>(b=false∧l=[]∧a.size≤65536)∨(b=true∧a=⟨#[]⟩∧ ∀x∈l,eW d x)
def bG:Nat→Sx→Nat
 |0,_=>0
 |d+1,.mk b _ l=>if b then 1+(l.map (bG d)).sum else 1
def fE:Nat→Sx→aZ
 |0,_=>⟨#[]⟩
 |d+1,.mk b a l=>if b then l.foldl (fun s x=>s++fE d x) (str [40])++str [41]else dec a.size++str [58]++a
def kP(x:Sx):aZ:=fE 6 x
def dp(a:aZ):Sx:= .mk false a []
def cp(l:List Sx):Sx:= .mk true ⟨#[]⟩ l
def cd(n:Int):Sx:=if n< -1099511627776∨1099511627776<n then .mk false ⟨#[]⟩ []else dp (dec n)
def xP(d:Dg):aZ:=str (d.l.map fun b=>UInt8.ofNat b.toNat)
def fO(d:Dg):Sx:=if isZero d then dp ⟨#[]⟩else dp (xP d)
def bD(x:ar):Sx:=cp [fO x.p,cd x.n]
def eF(l:List ar):Sx:=cp (l.map bD)
def bW(c:af):Sx:=cp<|
 [cd c.kind]++(if 2≤c.kind∧c.kind≤6 then[bD c.file]else[])++
 (if c.kind=1 then[cd c.type]else if c.kind=2 then[bD c.parent,dp c.name]else if c.kind=3 then[cd c.mode]else if c.kind=4 then[dp c.data]else if c.kind=5∨c.kind=6 then[bD c.after,bD c.before]else[])++
 (if c.kind=5 then[cp (c.lines.map dp)]else if c.kind=1 then[]else[eF c.over])
def kn(p:b9):Sx:=cp [dp (str [113,117,105,108,116,49]),dp p.author,dp p.message,cd p.time,cp (p.deps.map fO),cp (p.changes.map bW)]
def nf(p:b9):aZ×Int:=if 65536<(kP (kn p)).size then(⟨#[]⟩,4)else(kP (kn p),0)
def dK(p:b9):aZ×Int:=if(dT p).2≠0 then(⟨#[]⟩,(dT p).2)else nf p
def iD(p:b9):Int:=(dK p).2
def whole(x:ar)(d:Dg):ar:=if isZero x.p=true∧0≤x.n then{x with p:=d}else x
def iq:List ar→List ar→List ar
 |[],l=>l
 |x::r,l=>iq r (tM l x)
def vo(d:Dg)(x:aJ):aJ:=
 let x:={x with id:={x.id with p:=d}}
 let x:=if x.kind≠7 then{x with file:=whole x.file d}else x;let x:=if x.kind=2 then{x with parent:=whole x.parent d}else x;let x:=if x.kind=6 then{x with fro:=whole x.fro d,til:=whole x.til d}else x
 {x with over:=iq (x.over.map (whole · d)) []}
def jl(d:Dg):List Dg→Nat→Nat
 |[],k=>k
 |y::l,k=>if cQ y d<0 then jl d l (k+1)else k
def jK(l:List Dg)(d:Dg):List Dg:=if l[jl d l 0]?=some d then l else l.take (jl d l 0)++d::l.drop (jl d l 0)
def fu:List Dg→List Dg→List Dg
 |[],l=>l
 |d::r,l=>fu r (jK l d)
def l8:List ar→List Dg→List Dg
 |[],l=>l
 |x::r,l=>l8 r (if isZero x.p then l else jK l x.p)
def lN(c:af):List ar:=c.file::c.parent::c.after::c.before::c.over
def lG:List af→List Dg→List Dg
 |[],l=>l
 |c::r,l=>lG r (l8 (lN c) l)
def bB(p:b9):List Dg:=if iD p≠0 then[]else lG p.changes (fu p.deps [])
def pZ:List af→Int→Option Int
 |[],n=>some n
 |c::l,n=>if tJ c.lines=true∨40<c.over.length then none else pZ l (W (W (n+c.name.size)+c.data.size))
def kT(p:b9):Bool:=match pZ p.changes (W (p.author.size+p.message.size))with
 |none=>true
 |some n=>decide (3000<n)||(decide (20<p.deps.length)||decide (20<p.changes.length))
section
variable (H:aZ→Dg)
def dh(p:b9):Dg×Int:=if(dK p).2≠0 then(.zero,(dK p).2)else(H (dK p).1,0)
def tj(p:b9):List aJ×Int:=if(dh H p).2≠0 then([],(dh H p).2)else((dT p).1.map (vo (dh H p).1),0)
abbrev aP:=List bU
def bN:List Dg→Dg→Bool
 |[],_=>false
 |y::l,d=>if y=d then true else bN l d
def bM:aP→Dg→Option b9
 |[],_=>none
 |x::s,d=>if x.id=d then some x.pat else bM s d
def bA(s:aP):List Dg:=s.map (·.id)
def gj(l:List Dg):List Dg→Bool
 |[]=>true
 |d::r=>if bN l d then gj l r else false
def mD(a:List Dg):aP→Nat→Option (Nat×Dg)→Option (Nat×Dg)
 |[],_,k=>k
 |x::s,i,k=>mD a s (i+1) (if !bN a x.id&&(gj a (bB x.pat)&&(match k with|none=>true|some q=>decide (cQ x.id q.2<0)))then some (i,x.id)else k)
def qj(s:aP):Nat→List Dg→List Dg
 |0,out=>out
 |f+1,out=>match mD out s 0 none with
  |none=>out
  |some q=>qj s f (out++[q.2])
def iU(s:aP):List Dg:=qj s s.length []
def qW(s:aP)(x:ar):Option aJ:=if x.n<0∨((tj H ((bM s x.p).getD .zero)).1.length:Int)≤x.n then none else(tj H ((bM s x.p).getD .zero)).1[x.n.toNat]?
def qA(s:aP)(x:ar)(b:aJ→Bool):Int:=if isZero x.p then 0 else match qW H s x with
 |none=>7
 |some a=>if b a then 0 else 8
def vc(x:aJ):Bool:=decide (x.kind=1)&&decide (x.type=4)
def tG(s:aP)(x file:ar)(id:Dg):Int:=if isZero x.p=true∨x=file then 0 else qA H s x (vm (whole file id))
def sk(s:aP)(c:af)(id:Dg):List ar→Int
 |[]=>0
 |x::l=>cF (qA H s x (ri c.kind (whole c.file id))) (sk s c id l)
def pP(s:aP)(c:af)(id:Dg):Int:=
 cF (qA H s c.file (lE c.kind))<|cF (qA H s c.parent vc)<|cF (tG H s c.after c.file id)<|cF (tG H s c.before c.file id)<|sk H s c id c.over
def mI(s:aP)(id:Dg):List af→Int
 |[]=>0
 |c::l=>cF (pP H s c id) (mI s id l)
def pQ:Option Dg→aP→Int
 |_,[]=>0
 |p,x::s=>if(dh H x.pat).2≠0 then(dh H x.pat).2 else if(dh H x.pat).1≠x.id then 13 else if(p.map fun q=>decide (0≤cQ q x.id))=some true then 9 else pQ (some x.id) s
def pV(ids:List Dg):aP→Int
 |[]=>0
 |x::s=>if gj ids (bB x.pat)then pV ids s else 19
def ui(s:aP):aP→Int
 |[]=>0
 |x::r=>cF (mI H s x.id x.pat.changes) (ui s r)
def mZ(s:aP):Int:=
 if 400<s.length then 4 else cF (pQ H none s)<|cF (pV (bA s) s)<|if(iU s).length<s.length then 20 else ui H s s
def putAt(d:Dg):aP→Nat→Nat
 |[],k=>k
 |y::l,k=>if cQ y.id d<0 then putAt d l (k+1)else k
def By(s:aP)(x:bU):aP:=s.take (putAt x.id s 0)++x::s.drop (putAt x.id s 0)
def uQ(s:aP)(p:b9):aP×Dg×Int:=
 if(dh H p).2≠0 then([],.zero,(dh H p).2)
 else match bM s (dh H p).1 with
 |some q=>if p=q then([],.zero,6)else([],.zero,14)
 |none=>if gj (bA s) (bB p)=false then([],.zero,19)
  else if mI H s (dh H p).1 p.changes≠0 then([],.zero,mI H s (dh H p).1 p.changes)
  else if 400≤s.length then([],.zero,4)
  else(By s ⟨(dh H p).1,p⟩,(dh H p).1,0)
def ny(s:aP):List Dg→List Dg→List Dg
 |[],more=>more
 |d::l,more=>ny s l (fu (bB ((bM s d).getD .zero)) more)
def mq(s:aP):Nat→List Dg→List Dg
 |0,out=>out
 |n+1,out=>mq s n (ny s out out)
def mr(s:aP)(ids:List Dg):List Dg×Int:=if gj (bA s) ids then(mq s s.length (fu ids []),0)else([],7)
def nN(l:List Dg)(d:Dg):List Dg→List Dg→List Dg
 |[],out=>out
 |x::ids,out=>nN l d ids (if bN l x then jK out d else out)
def mL(s:aP)(ids:List Dg):aP→List Dg→List Dg
 |[],out=>out
 |x::r,out=>mL s ids r (nN (mr s [x.id]).1 x.id ids out)
def ej(s:aP)(ids:List Dg):List Dg×Int:=if gj (bA s) ids then(mL s ids s [],0)else([],7)
def tK:List af→Int→Int
 |[],n=>n
 |c::l,n=>tK l (W (W (W (n+1)+c.lines.length)+c.over.length))
def qa(a:Nat):aP→Nat→Int→Option Int
 |[],_,n=>some n
 |x::s,i,n=>if i≤a then(if kT x.pat then none else qa a s (i+1) (tK x.pat.changes n))else some n
def tL(s:aP)(a:Nat):Bool:=match qa a s 0 0 with
 |none=>true
 |some n=>decide (a<s.length)||decide (300<n)
def my(s:aP):Bool:=tL s 8
def oH(s:aP):Bool:= !my s&&decide (mZ H s=0)
def kF(ids:List Dg)(s:aP):aP:=s.filter fun x=> !bN ids x.id
def qf(d:Dg):aP→Bool
 |[]=>false
 |x::s=>if bN (bB x.pat) d then true else qf d s
def lO(s:aP)(d:Dg):aP×Int:=if bM s d=none then([],7)else if qf d s then([],19)else(kF [d] s,0)
def ji(s:aP)(ids:List Dg):aP×List Dg×Int:=if ids.any fun d=>decide (bM s d=none)then([],[],7)else if(ej s ids).2≠0 then([],[],(ej s ids).2)else(kF (ej s ids).1 s,(ej s ids).1,0)
end
end Go.Proofs.Q
