/- Lemmas. -/
import Derived.Test.YtikhfhjohjfamaaGreatDoorPAG
import Derived.WideShapes
set_option linter.unusedVariables false
set_option linter.unusedSimpArgs false
set_option maxRecDepth 100000
namespace Go.Proofs.Q
open Go Go.RowKit Go.Ab Go.Bb Go.Proofs.Lg
def NW:=PLift.up (ai (ai (ai (ai (ai (ai (ai (ai @decide_true (ai @NR @NO)) (ai (ai @NQ @NK) (ai @NN @NM))) (ai (ai @NP (ai @NI @mE.eq_1)) (ai (ai
 @mE.eq_2 @mE.eq_3) (ai @Ow @CI.sem.eq_1)))) (ai (ai (ai @CI.sem.eq_2 (ai @CI.sem.eq_3 @CI.sem.eq_4)) (ai (ai @CI.sem.eq_5 @CI.sem.eq_6) (ai @CI.sem.eq_7 @CI.sem.eq_8))) (ai
 (ai @CI.sem.eq_9 (ai @CI.sem.eq_10 @CI.sem.eq_11)) (ai (ai @CI.sem.eq_12 @CI.sem.eq_13) (ai @CI.sem.eq_14 @CI.sem.eq_15))))) (ai (ai (ai (ai @CI.sem.eq_16 (ai @CI.sem.eq_17
 @CI.sem.eq_18)) (ai (ai @CI.sem.eq_19 @CI.sem.eq_20) (ai @CI.sem.eq_21 @CI.sem.eq_22))) (ai (ai @CI.sem.eq_23 (ai @CI.sem.eq_24 @CI.sem.eq_25)) (ai (ai @CI.sem.eq_26 @CI.sem.eq_27)
 (ai @CI.sem.eq_28 @CI.sem.eq_29)))) (ai (ai (ai @CI.sem.eq_30 (ai @CI.sem.eq_31 @CI.sem.eq_32)) (ai (ai @CI.sem.eq_33 @CI.sem.eq_34) (ai @CI.sem.eq_35 @CI.sem.eq_36))) (ai (ai
 @CI.sem.eq_37 (ai @CI.sem.eq_38 @CI.sem.eq_39)) (ai (ai @CI.sem.eq_40 @CI.sem.eq_41) (ai @CI.sem.eq_42 @CI.sem.eq_43)))))) (ai (ai (ai (ai (ai @CI.sem.eq_44 (ai @CI.sem.eq_45
 @CI.touch.eq_1)) (ai (ai @CI.touch.eq_2 @CI.touch.eq_3) (ai @CI.touch.eq_4 @CI.touch.eq_5))) (ai (ai @CI.touch.eq_6 (ai @CI.touch.eq_7 @CI.touch.eq_8)) (ai (ai @CI.touch.eq_9
 @CI.touch.eq_10) (ai @CI.touch.eq_11 @CI.touch.eq_12)))) (ai (ai (ai @CI.touch.eq_13 (ai @CI.touch.eq_14 @CI.touch.eq_15)) (ai (ai @CI.touch.eq_16 @CI.touch.eq_17) (ai
 @CI.touch.eq_18 @CI.touch.eq_19))) (ai (ai @CI.touch.eq_20 (ai @nf.eq_1 @nf.eq_2)) (ai (ai @nf.eq_3 @CI.use.eq_1) (ai @CI.use.eq_2 @CI.use.eq_3))))) (ai (ai (ai (ai
 @CI.use.eq_4 (ai @CI.use.eq_5 @CI.use.eq_6)) (ai (ai @CI.use.eq_7 @AV.vecId.eq_1) (ai @AV.vecId.eq_2 @AV.vecId.eq_3))) (ai (ai @AV.hdl.eq_1 (ai @AV.hdl.eq_2 @AV.hdl.eq_3)) (ai (ai
 @AV.hdl.eq_4 @AV.hdl.eq_5) (ai @AV.hdl.eq_6 @AV.hdl.eq_7)))) (ai (ai (ai @ir.eq_1 (ai @X.ev.eq_1 @X.ev.eq_2)) (ai (ai @jN.eq_1 @jN.eq_2) (ai @Go.Bb.look.eq_1
 @Go.Bb.look.eq_2))) (ai (ai (ai @nJ.eq_1 @vb.eq_1) (ai @ret.eq_1 @AV.bool?.eq_1)) (ai (ai @AV.bool?.eq_2 @AV.int?.eq_1) (ai @AV.int?.eq_2 @AV.num?.eq_1))))))) (ai (ai (ai
 (ai (ai (ai @AV.num?.eq_2 (ai @AV.str?.eq_1 @AV.str?.eq_2)) (ai (ai @AV.sc?.eq_1 @AV.sc?.eq_2) (ai @kV.eq_1 @kV.eq_2))) (ai (ai @kV.eq_3 (ai @slA.eq_1 @slA.eq_2)) (ai (ai
 @slA.eq_3 @slA.eq_4) (ai @slA.eq_5 @pM.eq_1)))) (ai (ai (ai @pM.eq_2 (ai @pN.eq_1 @pN.eq_2)) (ai (ai @dq.eq_1 @dq.eq_2) (ai @dq.eq_3 @dq.eq_4))) (ai (ai
 @dq.eq_5 (ai @dq.eq_6 @dq.eq_7)) (ai (ai @dq.eq_8 @dq.eq_9) (ai @dq.eq_10 @dq.eq_11))))) (ai (ai (ai (ai @dq.eq_12 (ai @dq.eq_13 @dq.eq_14)) (ai (ai @dq.eq_15
 @dq.eq_16) (ai @dq.eq_17 @dq.eq_18))) (ai (ai @dq.eq_19 (ai @dq.eq_20 @dq.eq_21)) (ai (ai @dq.eq_22 @dq.eq_23) (ai @dq.eq_24 @dq.eq_25)))) (ai (ai (ai @kU.eq_1
 (ai @kU.eq_2 @kU.eq_3)) (ai (ai @kU.eq_4 @nC.eq_1) (ai @nC.eq_2 @nC.eq_3))) (ai (ai (ai @nC.eq_4 @qo.eq_1) (ai @qo.eq_2 @qo.eq_3)) (ai (ai @qo.eq_4
 @tA.eq_1) (ai @tA.eq_2 @tA.eq_3)))))) (ai (ai (ai (ai (ai @gr.eq_1 (ai @gr.eq_2 @gr.eq_3)) (ai (ai @gr.eq_4 @gr.eq_5) (ai @gr.eq_6 @gr.eq_7))) (ai (ai
 @gr.eq_8 (ai @gr.eq_9 @gr.eq_10)) (ai (ai @gr.eq_11 @nD.eq_1) (ai @nD.eq_2 @nD.eq_3)))) (ai (ai (ai @nD.eq_4 (ai @nD.eq_5 @qp.eq_1)) (ai (ai
 @qp.eq_2 @qp.eq_3) (ai @qp.eq_4 @rH.eq_1))) (ai (ai @rH.eq_2 (ai @rH.eq_3 @lU.eq_1)) (ai (ai @qj.eq_1 @qj.eq_2) (ai @wN.eq_1 @wN.eq_2))))) (ai (ai
 (ai (ai @nV.eq_1 (ai @nV.eq_2 @gY.eq_1)) (ai (ai @gY.eq_2 @rp.eq_1) (ai @rp.eq_2 @sO.eq_1))) (ai (ai @sO.eq_2 (ai @mA.eq_1 @mA.eq_2)) (ai (ai @sn.eq_1
 @wB.eq_1) (ai @iX.eq_1 @iX.eq_2)))) (ai (ai (ai @iX.eq_3 (ai @iX.eq_4 @z6.eq_1)) (ai (ai @pr.eq_1 @pr.eq_2) (ai @pr.eq_3 @jD.eq_1))) (ai (ai (ai
 @jD.eq_2 @jD.eq_3) (ai @jD.eq_4 @jD.eq_5)) (ai (ai @jD.eq_6 @zx.eq_1) (ai @zy.eq_1 @pq.eq_1)))))))) (ai (ai (ai (ai (ai (ai (ai @pq.eq_2 (ai
 @gU.eq_1 @gU.eq_2)) (ai (ai @pw.eq_1 @pw.eq_2) (ai @pS.eq_1 @pS.eq_2))) (ai (ai @nI.eq_1 (ai @nI.eq_2 @gg.eq_1)) (ai (ai @gg.eq_2 @ma.eq_1) (ai
 @ma.eq_2 @lv.eq_1)))) (ai (ai (ai @lv.eq_2 (ai @lv.eq_3 @wW.eq_1)) (ai (ai @rL.eq_1 @rL.eq_2) (ai @uO.eq_1 @uO.eq_2))) (ai (ai @zJ.eq_1 (ai @zJ.eq_2
 @bE.eq_1)) (ai (ai @bE.eq_2 @bE.eq_3) (ai @bE.eq_4 @bE.eq_5))))) (ai (ai (ai (ai @bE.eq_6 (ai @bE.eq_7 @bE.eq_8)) (ai (ai @dw.eq_1 @dw.eq_2) (ai
 @chunk.eq_1 @chunk.eq_2))) (ai (ai @AV.toD.eq_1 (ai @AV.toD.eq_2 @AV.toL.eq_1)) (ai (ai @AV.toL.eq_2 @AV.toL.eq_3) (ai @AV.toL.eq_4 @AV.toL.eq_5)))) (ai (ai (ai @toLs.eq_1 (ai
 @toLs.eq_2 @AV.cells.eq_1)) (ai (ai @AV.cells.eq_2 @AV.cells.eq_3) (ai @AV.row.eq_1 @AV.row.eq_2))) (ai (ai (ai @AV.row.eq_3 @AV.leaf.eq_1) (ai @AV.leaf.eq_2 @AV.leaf.eq_3)) (ai (ai
 @AV.leaf.eq_4 @D.leaf.eq_1) (ai @D.leaf.eq_2 @D.leaf.eq_3)))))) (ai (ai (ai (ai (ai @D.leaf.eq_4 (ai @D.leaf.eq_5 @Go.Value.oneCell'.eq_1)) (ai (ai @Go.Value.oneCell'.eq_2
 @Go.Value.oneCell'.eq_3) (ai @jK.eq_1 @jK.eq_2))) (ai (ai @bX.{0,0} (ai @fi.{0,0} @eY.{0,0})) (ai (ai @qR.{0,0}
 @eE.{0,0}) (ai @Option.bind_none.{0,0} @eF.{0})))) (ai (ai (ai @jY.{0} (ai @nS.{0} @kA.{0})) (ai (ai
 @false_implies @true_implies) (ai @and_true @true_and))) (ai (ai @and_self (ai @if_true.{1} @if_false.{1})) (ai (ai @List.set_cons_zero.{0} @List.set_cons_succ.{0}) (ai
 @aY.{0} @bc.{0}))))) (ai (ai (ai (ai @vy.{0} (ai @List.reverse_nil.{0} @bt.{0})) (ai (ai @gb.{0}
 @jW.{0}) (ai @tW.{0} @List.drop_succ_cons.{0}))) (ai (ai @ky.{0} (ai @Hk @Hj)) (ai (ai @Bool.not_true @Bool.not_false) (ai
 @Bool.true_and @Bool.and_true)))) (ai (ai (ai @Bool.false_and (ai @Bool.and_false @Bool.not_not)) (ai (ai @Bool.false_bne @Bool.true_bne) (ai @aM.{0,0}
 @fY))) (ai (ai (ai @Int.natCast_nonneg @dj.{0,0}) (ai @eq_self.{1} @lz.eq_1)) (ai (ai @lz.eq_2 @List.getElem?_cons_zero.{0}) (ai
 @List.getElem?_cons_succ.{0} @aQ.{0}))))))) (ai (ai (ai (ai (ai (ai @xM.{0} (ai @D.sc.injEq @Go.Value.bool.injEq)) (ai (ai @AV.d.injEq
 @Go.Value.int.injEq) (ai @D.sl.injEq @exists_eq_left'.{1}))) (ai (ai @exists_eq_left.{1} (ai @Bool.false_or @Bool.true_or)) (ai (ai @Option.isNone_some.{0} @Option.isNone_none.{0})
 (ai @CI.mark.eq_1 @CI.wr.eq_1)))) (ai (ai (ai @CI.wr.eq_2 (ai @CI.wr.eq_3 @CI.wr.eq_4)) (ai (ai @CI.wr.eq_5 @CI.wr.eq_6) (ai @CI.wr.eq_7 @AV.rowId.eq_1))) (ai (ai @AV.rowId.eq_2 (ai
 @AV.rowId.eq_3 @AV.rowId.eq_4)) (ai (ai @sP.eq_1 @xi.eq_1) (ai @fo.eq_1 @ZW))))) (ai (ai (ai (ai @ZU (ai @ZT @Ov)) (ai (ai @P9 @Oe) (ai @ZV
 @On))) (ai (ai @Om (ai @GJ @Oq)) (ai (ai @OK @Oz) (ai @Oy @OF)))) (ai (ai (ai @ON (ai @OP @OG)) (ai (ai @OA @OO) (ai
 @OM @OR))) (ai (ai (ai @OQ @OJ) (ai @OE @OL)) (ai (ai @OU @OV) (ai @OX @OW)))))) (ai (ai (ai (ai (ai @OH (ai
 @OY @OD)) (ai (ai @OB @OT) (ai @Og @Yo))) (ai (ai @zq (ai @jJ.eq_1 @jJ.eq_2)) (ai (ai @jJ.SameO.eq_1 @jJ.SameO.eq_2) (ai
 @Vl @Rv)))) (ai (ai (ai @Ru (ai @yh @Pg)) (ai (ai @Nj @uj) (ai @aggA.eq_1 @lE.eq_1))) (ai (ai @lE.eq_2 (ai @lE.eq_3 @Tf))
 (ai (ai @Tj @RW) (ai @Qk @xT.eq_1))))) (ai (ai (ai (ai @xF.eq_1 (ai @FK.eq_1 @FL.eq_1)) (ai (ai @zL.eq_1 @zL.eq_2) (ai @zL.eq_3 @wT.eq_1))) (ai (ai
 @wT.eq_2 (ai @wT.eq_3 @wT.eq_4)) (ai (ai @M7.eq_1 @FI.eq_1) (ai @zn.eq_1 @zn.eq_2)))) (ai (ai (ai @zn.eq_3 (ai @uU.eq_1 @uU.eq_2)) (ai (ai
 @uV.eq_1 @uV.eq_2) (ai @yO.eq_1 @yO.eq_2))) (ai (ai (ai @AV.keyK.eq_1 @Cx.eq_1) (ai @FJ.eq_1 @tz.eq_1)) (ai (ai @tz.eq_2 @tz.eq_3) (ai @natLit
 @Go.undef.eq_1)))))))))
theorem wy:type_of% NW.down:=NW.down
def Li:=PLift.up (ai (ai (ai (ai (ai (ai (ai @b9 (ai @XP @dh)) (ai @aN (ai @dV @bH))) (ai (ai @fg (ai @bB @iF)) (ai @tt (ai @LQ
 @Xg)))) (ai (ai (ai @XQ (ai @Y5 @XR)) (ai @XS (ai @XT @XU))) (ai (ai @Fv (ai @Xl @Xi)) (ai @ph (ai @pj @LM))))) (ai (ai (ai
 (ai @Xf (ai @WI @WJ)) (ai @WK (ai @WY @WZ))) (ai (ai @WM (ai @WN @X0)) (ai @X1 (ai @WO @WQ)))) (ai (ai (ai @WR
 (ai @WS @X2)) (ai @WV (ai @WT @WW))) (ai (ai @WX (ai @WU @WL)) (ai (ai @LS @XC) (ai @Xv @LU)))))) (ai (ai (ai
 (ai (ai @LV (ai @LW @LX)) (ai @LY (ai @M4 @XO))) (ai (ai @XD (ai @XE @XF)) (ai @XG (ai @XH @XI)))) (ai (ai (ai
 @XJ (ai @XK @LJ)) (ai @WG (ai @W6 @W7))) (ai (ai @Wj (ai @Wp @W8)) (ai (ai @Wb @Wq) (ai @Wr @Wc))))) (ai (ai
 (ai (ai @Wd (ai @Ws @Wk)) (ai @We (ai @Wf @Wg))) (ai (ai @Wh (ai @Wi @Wl)) (ai @Wm (ai @W9 @Wn)))) (ai (ai
 (ai @Wo (ai @Wa @Fy)) (ai @Xu (ai @Xm @Xn))) (ai (ai @Xo (ai @Xp @Y2)) (ai (ai @Y3 @tw) (ai @Y4 @Xj))))))) (ai
 (ai (ai (ai (ai (ai @Xk (ai @fe @X3)) (ai @X4 (ai @X5 @X6))) (ai (ai @X7 (ai @X8 @X9)) (ai @Xa (ai @Xb @Xe)))) (ai (ai (ai
 @Cb (ai @Xd @LN)) (ai @Xc (ai @Xw @Xx))) (ai (ai @Xy (ai @XA @LZ)) (ai @XB (ai @M1 @Xz))))) (ai (ai (ai (ai @XL
 (ai @XM @XN)) (ai @Wt (ai @Wu @Ww))) (ai (ai @Wx (ai @Wy @Wz)) (ai @WA (ai @WB @WC)))) (ai (ai (ai @WD (ai @Wv
 @WE)) (ai @LK (ai @lR @Xq))) (ai (ai @Xr (ai @Xs @Xt)) (ai (ai @XV @XW) (ai @XX @XY)))))) (ai (ai (ai (ai (ai @XZ (ai
 @Y0 @Y1)) (ai @a0a (ai @ZY @a0h))) (ai (ai @JJ (ai @JK @SC)) (ai @SD (ai @CN @ZO)))) (ai (ai (ai @II (ai @IJ
 @SA)) (ai @SB (ai @rT.eq_1 @vk.eq_1))) (ai (ai @vi.eq_1 (ai @xo.eq_1 @zY.eq_1)) (ai (ai @a0b @a0c) (ai @NZ.eq_1 @a0d))))) (ai (ai (ai (ai @a0e
 (ai @a0f @a0g)) (ai @O0.eq_1 (ai @a0i @O2.eq_1))) (ai (ai @a0j (ai @a0k @O3.eq_1)) (ai @a0l (ai @a0m @a0n)))) (ai (ai (ai @O4.eq_1 (ai
 @a0o @a0p)) (ai @a0q (ai @a0r @O5.eq_1))) (ai (ai @a0s (ai @a0t @a0u)) (ai (ai @a0v @a0w) (ai @a0x @O6.eq_1))))))))
theorem qg:type_of% Li.down:=Li.down
end Go.Proofs.Q
namespace Go.Proofs.Q
open Go Go.Bb Go.RowKit Go.Proofs.Lg
theorem aC{A B F C:Prop}(f:F)(c:C)(h:B)(a:F->C->B->A:=by
 intro f c b
 repeat' first|refine ab (λ_=> ?_) λ_=> ?_|refine aH ?_|refine af.data (c ..) rfl ?_|refine af.data (c.1 ..) rfl ?_|refine af.data (c.2 ..) rfl ?_|refine af.data (c.2.1 ..) rfl ?_|refine af.data (c.2.2 ..) rfl ?_|refine af.data (c.2.2.1 ..) rfl ?_|refine af.data (c.2.2.2 ..) rfl ?_|simp only[f,bne_self_eq_false,n0,l9,dX,jY,eF,kA,nS,jU,gH,la,Int.reduceToNat,lk,aM,decide_true,decide_false,Int.reduceLE,Int.reduceLT,Int.reduceGE,Int.reduceGT,Int.reduceEq,Int.reduceNe,Int.reduceBEq,Int.reduceBNe,decide_true,decide_false,wy,qg,aE,simprocAttr,ax,aD,aB,aw]
 all_goals exact b):A:=a f c h
theorem bL{A F C:Prop}(f:F)(c:C)(a:F->C->A:=by
 intro f c
 repeat' first|refine ab (λ_=> ?_) λ_=> ?_|refine aH ?_|refine af.data (c ..) rfl ?_|refine af.data (c.1 ..) rfl ?_|refine af.data (c.2 ..) rfl ?_|refine af.data (c.2.1 ..) rfl ?_|refine af.data (c.2.2 ..) rfl ?_|refine af.data (c.2.2.1 ..) rfl ?_|refine af.data (c.2.2.2 ..) rfl ?_|simp only[f,bne_self_eq_false,n0,l9,dX,jY,eF,kA,nS,jU,gH,la,Int.reduceToNat,lk,aM,decide_true,decide_false,Int.reduceLE,Int.reduceLT,Int.reduceGE,Int.reduceGT,Int.reduceEq,Int.reduceNe,Int.reduceBEq,Int.reduceBNe,decide_true,decide_false,wy,qg,aE,simprocAttr,ax,aD,aB,aw]
 all_goals first|rfl|exact⟨rfl,rfl⟩|(simp_all;done)):A:=a f c
theorem sH{A B F C:Prop}(f:F)(c:C)(h:B)(a:F->C->B->A:=by
 intro f c b
 repeat' first|refine ab (λ_=> ?_) λ_=> ?_|refine aH ?_|(refine af.fn ((c ..).mono ?_);rintro _ _ ⟨rfl,rfl⟩)|(refine af.fn ((c.1 ..).mono ?_);rintro _ _ ⟨rfl,rfl⟩)|(refine af.fn ((c.2 ..).mono ?_);rintro _ _ ⟨rfl,rfl⟩)|(refine af.fn ((c.2.1 ..).mono ?_);rintro _ _ ⟨rfl,rfl⟩)|(refine af.fn ((c.2.2 ..).mono ?_);rintro _ _ ⟨rfl,rfl⟩)|simp only[f,bne_self_eq_false,n0,l9,dX,jY,eF,kA,nS,jU,gH,la,Int.reduceToNat,lk,aM,decide_true,decide_false,Int.reduceLE,Int.reduceLT,Int.reduceGE,Int.reduceGT,Int.reduceEq,Int.reduceNe,Int.reduceBEq,Int.reduceBNe,decide_true,decide_false,wy,qg,aE,simprocAttr,ax,aD,aB,aw]
 all_goals exact b):A:=a f c h
theorem yy{A F C:Prop}(f:F)(c:C)(a:F->C->A:=by
 intro f c
 repeat' first|refine ab (λ_=> ?_) λ_=> ?_|refine aH ?_|(refine af.fn ((c ..).mono ?_);rintro _ _ ⟨rfl,rfl⟩)|(refine af.fn ((c.1 ..).mono ?_);rintro _ _ ⟨rfl,rfl⟩)|(refine af.fn ((c.2 ..).mono ?_);rintro _ _ ⟨rfl,rfl⟩)|(refine af.fn ((c.2.1 ..).mono ?_);rintro _ _ ⟨rfl,rfl⟩)|(refine af.fn ((c.2.2 ..).mono ?_);rintro _ _ ⟨rfl,rfl⟩)|simp only[f,bne_self_eq_false,n0,l9,dX,jY,eF,kA,nS,jU,gH,la,Int.reduceToNat,lk,aM,decide_true,decide_false,Int.reduceLE,Int.reduceLT,Int.reduceGE,Int.reduceGT,Int.reduceEq,Int.reduceNe,Int.reduceBEq,Int.reduceBNe,decide_true,decide_false,wy,qg,aE,simprocAttr,ax,aD,aB,aw]
 all_goals first|rfl|exact⟨rfl,rfl⟩|(simp_all;done)):A:=a f c
theorem gg2{A B D F C:Prop}(f:F)(c:C)(h:B)(k:D)(a:F->C->B->D->A:=by
 intro f c b d
 repeat' first|refine ab (λ_=> ?_) λ_=> ?_|refine aH ?_|refine af.data (c ..) rfl ?_|refine af.data (c.1 ..) rfl ?_|refine af.data (c.2 ..) rfl ?_|refine af.data (c.2.1 ..) rfl ?_|refine af.data (c.2.2 ..) rfl ?_|refine af.data (c.2.2.1 ..) rfl ?_|refine af.data (c.2.2.2 ..) rfl ?_|simp only[f,bne_self_eq_false,n0,l9,dX,jY,eF,kA,nS,jU,gH,la,Int.reduceToNat,lk,aM,decide_true,decide_false,Int.reduceLE,Int.reduceLT,Int.reduceGE,Int.reduceGT,Int.reduceEq,Int.reduceNe,Int.reduceBEq,Int.reduceBNe,decide_true,decide_false,wy,qg,aE,simprocAttr,ax,aD,aB,aw]
 all_goals first|exact b|exact d):A:=a f c h k
theorem aG{A B F C:Prop}(f:F)(c:C)(h:B)(a:F->C->B->A:=by
 intro f c b
 first|((with_reducible refine Ad ?ord ?_);case ord=>(first|rfl|exact(BT (by simp only[bX,fi,sw,pU];rfl))))|refine af.data (c ..) rfl ?_|refine af.data (c.1 ..) rfl ?_|refine af.data (c.2 ..) rfl ?_|refine af.data (c.2.1 ..) rfl ?_|refine af.data (c.2.2 ..) rfl ?_|refine af.data (c.2.2.1 ..) rfl ?_|refine af.data (c.2.2.2 ..) rfl ?_|(refine af.fn ((c ..).mono ?_);rintro _ _ ⟨rfl,rfl⟩)|(refine af.fn ((c.1 ..).mono ?_);rintro _ _ ⟨rfl,rfl⟩)|(refine af.fn ((c.2 ..).mono ?_);rintro _ _ ⟨rfl,rfl⟩)|(refine af.fn ((c.2.1 ..).mono ?_);rintro _ _ ⟨rfl,rfl⟩)|(refine af.fn ((c.2.2 ..).mono ?_);rintro _ _ ⟨rfl,rfl⟩)|simp only[f,bne_self_eq_false,n0,l9,dX,jY,eF,kA,nS,jU,gH,la,Int.reduceToNat,lk,aM,decide_true,decide_false,Int.reduceLE,Int.reduceLT,Int.reduceGE,Int.reduceGT,Int.reduceEq,Int.reduceNe,Int.reduceBEq,Int.reduceBNe,decide_true,decide_false,wy,qg,aE,simprocAttr,ax,aD,aB,aw]
 repeat first|((with_reducible refine Ad ?ord ?_);case ord=>(first|rfl|exact(BT (by simp only[bX,fi,sw,pU];rfl))))|refine af.data (c ..) rfl ?_|refine af.data (c.1 ..) rfl ?_|refine af.data (c.2 ..) rfl ?_|refine af.data (c.2.1 ..) rfl ?_|refine af.data (c.2.2 ..) rfl ?_|refine af.data (c.2.2.1 ..) rfl ?_|refine af.data (c.2.2.2 ..) rfl ?_|(refine af.fn ((c ..).mono ?_);rintro _ _ ⟨rfl,rfl⟩)|(refine af.fn ((c.1 ..).mono ?_);rintro _ _ ⟨rfl,rfl⟩)|(refine af.fn ((c.2 ..).mono ?_);rintro _ _ ⟨rfl,rfl⟩)|(refine af.fn ((c.2.1 ..).mono ?_);rintro _ _ ⟨rfl,rfl⟩)|(refine af.fn ((c.2.2 ..).mono ?_);rintro _ _ ⟨rfl,rfl⟩)|simp only[f,bne_self_eq_false,n0,l9,dX,jY,eF,kA,nS,jU,gH,la,Int.reduceToNat,lk,aM,decide_true,decide_false,Int.reduceLE,Int.reduceLT,Int.reduceGE,Int.reduceGT,Int.reduceEq,Int.reduceNe,Int.reduceBEq,Int.reduceBNe,decide_true,decide_false,wy,qg,aE,simprocAttr,ax,aD,aB,aw]
 exact b):A:=a f c h
theorem aF{A F C:Prop}(f:F)(c:C)(a:F->C->A:=by
 intro f c
 repeat first|((with_reducible refine Ad ?ord ?_);case ord=>(first|rfl|exact(BT (by simp only[bX,fi,sw,pU];rfl))))|refine af.data (c ..) rfl ?_|refine af.data (c.1 ..) rfl ?_|refine af.data (c.2 ..) rfl ?_|refine af.data (c.2.1 ..) rfl ?_|refine af.data (c.2.2 ..) rfl ?_|refine af.data (c.2.2.1 ..) rfl ?_|refine af.data (c.2.2.2 ..) rfl ?_|(refine af.fn ((c ..).mono ?_);rintro _ _ ⟨rfl,rfl⟩)|(refine af.fn ((c.1 ..).mono ?_);rintro _ _ ⟨rfl,rfl⟩)|(refine af.fn ((c.2 ..).mono ?_);rintro _ _ ⟨rfl,rfl⟩)|(refine af.fn ((c.2.1 ..).mono ?_);rintro _ _ ⟨rfl,rfl⟩)|(refine af.fn ((c.2.2 ..).mono ?_);rintro _ _ ⟨rfl,rfl⟩)|simp only[f,bne_self_eq_false,n0,l9,dX,jY,eF,kA,nS,jU,gH,la,Int.reduceToNat,lk,aM,decide_true,decide_false,Int.reduceLE,Int.reduceLT,Int.reduceGE,Int.reduceGT,Int.reduceEq,Int.reduceNe,Int.reduceBEq,Int.reduceBNe,decide_true,decide_false,wy,qg,aE,simprocAttr,ax,aD,aB,aw]
 all_goals fail):A:=a f c
theorem ch{A:Prop}(h:A:=by first|omega|(intros;omega)|((repeat' split)<;>(intros;omega))):A:=h
theorem ab{A B D p q:Prop}(h:p->B)(k:q->D)(a:(p->B)->(q->D)->A:=by
 intro h k
 with_reducible first|exact dO.dec h k|exact dO.ndec h k|exact dO.both h k|exact oE.both h k):A:=a h k
theorem aH{A B:Prop}(h:B)(a:B->A:=by
 intro h
 (with_reducible refine Ad ?ord h);case ord=>(first|rfl|exact(BT (by simp only[bX,fi,sw,pU];rfl)))):A:=a h
theorem aA{A:Prop}(h:A:=by simp only[wy,qg,aE,simprocAttr,ax,aD,aB,aw];try rfl):A:=h
theorem ga{p q:Prop}(h:p)(k:q):p/\q:=⟨h,k⟩
theorem ggt:True:=trivial
end Go.Proofs.Q
namespace Go.Proofs.Q
open Go Go.Bb Go.RowKit Go.Proofs.Lg
open Go.Ab (D RD)
theorem Hh(b:ByteArray): ∀(n i:Nat) (r:List UInt8),b.size-i=n->ByteArray.toList.loop b i r=r.reverse++b.data.toList.drop i
 |0,i,r,h=>by
  unfold ByteArray.toList.loop;have a:b.data.toList.length=b.size:=ic;rw[if_neg a8,iM a8,bq]
 |n+1,i,r,h=>by
  unfold ByteArray.toList.loop;have a:b.data.toList.length=b.size:=ic;have hi:i<b.data.toList.length:=by omega
  rw[if_pos a8,Hh b n (i+1) _ a8,lh hi,vy,bk];congr 2;show b.data[i]! ::_=_;rw[getElem!_pos b.data i (by simpa using hi),Array.getElem_toList];rfl
theorem Av(b:ByteArray):b.toList=b.data.toList:=by
 unfold ByteArray.toList;rw[Hh b _ 0 [] rfl];rfl
theorem mq(a b:ByteArray):(a.toList==b.toList)=decide (a=b):=by
 rw[Av,Av,l6];simp only[beq_iff_eq,decide_eq_true_eq];exact⟨λh=>WideShapes.bytes_inj h,λh=>by rw[h]⟩
theorem sk(b:ByteArray)(i:Nat):b[i]?=b.data.toList[i]? :=by
 show(if h:i<b.size then some b[i]else none)=_;split
 .rename_i h;rw[bQ (by rw[ic];exact h),Array.getElem_toList];rfl
 .rename_i h;rw[iO (by rw[ic];exact Nat.le_of_not_lt h)]
theorem gJ(b:ByteArray):b.data.toList.length=b.size:=ic
theorem enters_of{P:Program}{d:List Nat}{f:FuncId}{F:CF}(hc:oV P d f=some F):Enters P f:=by
 unfold oV at hc;split at hc
 .rename_i fn a;split at hc
  .rename_i c hb;split at hc
   .cases hc
   .rename_i e;intro args w;have b:fn.name≠ "runtime.NumGoroutine":=by simpa using e
    simp[callFunc,a,b,hb,Go.mark]
  .cases hc
 .cases hc
theorem aI.big{P:Program}{f:FuncId}{ds:List D}{r:D}(e:Enters P f)(i:Nat){sz:Nat}{rows:List (List D)}(hi:ds[i]?=some (.sl sz rows))(h:rows.length<=9223372036854775807->aI P f ds r):aI P f ds r:=by
 by_cases hb:rows.length<=9223372036854775807
 .exact h hb
 .refine⟨e,λI w vs p b _=> ?_⟩;exfalso;have g:=(aV.1 hi).1;have j:vs[i]?=some vs[i]:=bQ a8;have d:=b i _ _ j hi;generalize vs[i]=v at d;cases d with
  |sl a n c sz us rows k l m o=>omega
theorem aE(a v:AV):ba [a] 0 1 [v]=some [v]:=rfl
abbrev iN(k:Nat):AV:= .d (.sc (.int .i64 k))
abbrev dB(b:Bool):D:= .sc (.bool b)
abbrev dI(n:Int):D:= .sc (.int .i64 n)
abbrev dS(s:bb):D:= .sc (.string s)
theorem tN{α β:Type}{a:List α}{b:List β}{k:Nat}{x:α×β}(h:(a.zip b)[k]?=some x):a[k]?=some x.1/\b[k]?=some x.2:=by
 rw[List.getElem?_zip_eq_some]at h;exact h
theorem LO(d:Dg)(k:Nat):(au d)[k]?=(d.l[k]?).map λb=> .sc (.int .u8 b):=by unfold au;rw[dj]
end Go.Proofs.Q
namespace Go.Bb
open Go Go.Ab
theorem AC.cut{P:Program}{N:Nat}{rd:Option Nat}{a b:CC}{Q:Exit->Fr->List aa->Prop}{fr:Fr}{s:List aa}(keep:List Nat)(fr0:Fr)(d:List aa)(p:Prop)
  (ha:cy P rd a (gg (λfr' c=>jJ keep fr0 fr'/\(∃J,c=d++J)/\p) Q) fr s) (hb: ∀J,p->AC P N rd b Q (eQ keep fr0) (d++J)):AC P N rd (.seq a b) Q fr s:=by
 refine AC.seq ((bG ha).mono λe fr' c h=> ?_);cases e with
 |normal=>
  obtain⟨f,⟨J,rfl⟩,g⟩:=h;exact(hb J g).frame f.sub
 |_=>exact h
theorem Od{P:Program}{b:List Nat}{f:FuncId}{F:CF}(hc:oV P b f=some F.erase){args:List D}{r:D}(a:args.length<=F.n)(h:AC P F.n none F.body (lv F.res λx s=>bE s 5 x=some r) (jK 0 (args.map .d)) []):aI P f args r:=
 let⟨_,_,c,e⟩:=bs.ofA hc (by simpa using a) h;aI.of_runs c e
theorem aZ.overI{P:Program}{rd:Option Nat}{keep:List Nat}{c:CC}{Q:Exit->Fr->List aa->Prop}{fr fr0:Fr}{s:List aa}{α β γ:Type}(l:List α)(F:Nat->β->Fr)(S:Nat->β->List aa)(g:List α->β->γ)(R:γ)(J:Nat->β->Prop)(b:β)(w:l.length<=9223372036854775807)
  (v:eQ keep fr=fr0) (h0:jJ keep (F 0 b++fr0) fr0) (u:s=S 0 b) (t:R=g l b) (r:J 0 b)
  (h: ∀k b y,l[k]?=some y->k<l.length->decide ((k:Int)<(l.length:Int))=true->IntKind.i64.wrap ((k:Int)+1)=((k+1:Nat):Int)->R=g (y::l.drop (k+1)) b->J k b->
   cy P rd c (gg (λfr' j=> ∃d,jJ keep (F (k+1) d++fr0) fr'/\j=S (k+1) d/\R=g (l.drop (k+1)) d/\J (k+1) d) Q) (eQ keep (F k b++fr0)) (S k b))
  (a: ∀b,decide ((l.length:Int)<(l.length:Int))=false->R=g [] b->J l.length b->cy P rd c (gg (λ_ _=>False) Q) (eQ keep (F l.length b++fr0)) (S l.length b)):aZ P rd (.trim keep c) Q fr s:=by
 refine aZ.tr (λb:Nat×β=>F b.1 b.2) (λb=>S b.1 b.2) (λm b=>m+b.1=l.length/\R=g (l.drop b.1) b.2/\J b.1 b.2) l.length (0,b) v h0 u ⟨rfl,t,r⟩ ?_;rintro m ⟨k,b⟩ ⟨hm,hi,i⟩;dsimp only at hm hi i⊢;by_cases hk:k<l.length
 .have hg:l[k]?=some l[k]:=bQ hk;rw[lh hk]at hi;refine mY (h k b _ hg hk (by simpa using hk) (bN a8 a8) hi i) λe fr' j f=> ?_;cases e with
  |normal=>obtain⟨d,n,o,p,q⟩:=f;exact⟨m-1,(k+1,d),by omega,n,o,by dsimp only;omega,p,q⟩
  |_=>exact f
 .obtain rfl:k=l.length:=by omega
  rw[vp]at hi;refine mY (a b (by simp) hi i) λe fr' j f=> ?_;cases e with
  |normal=>exact f.elim
  |_=>exact f
end Go.Bb
namespace Go.Proofs.Q
open Go Go.Bb Go.RowKit Go.Proofs.Lg
open Go.Ab (D RD)
theorem room_le{n b:Nat}(h:n*b<=140737488355328)(a:n<=9223372036854775807):bw n b=true:=by simp[bw,h,a]
end Go.Proofs.Q
