/- Lemmas. -/
import Derived.Test.YtellfinifjmloaaGreatDoorPAF
import Derived.Test.YtellfinifjmloaaGreatDoorProg
set_option linter.unusedVariables false
set_option linter.unusedSimpArgs false
namespace Go.Proofs.Q
open Go Go.RowKit Go.Ab Go.Bb Go.Proofs.Lg
def PG:=PLift.up (ai (ai (ai (ai (ai (ai (ai (ai @decide_true (ai @PB @Py)) (ai (ai @PA @Pu) (ai @Px @Pw))) (ai (ai @Pz (ai @Ps @ki.eq_1)) (ai (ai
 @ki.eq_2 @ki.eq_3) (ai @Q3 @CI.sem.eq_1)))) (ai (ai (ai @CI.sem.eq_2 (ai @CI.sem.eq_3 @CI.sem.eq_4)) (ai (ai @CI.sem.eq_5 @CI.sem.eq_6) (ai @CI.sem.eq_7 @CI.sem.eq_8))) (ai
 (ai @CI.sem.eq_9 (ai @CI.sem.eq_10 @CI.sem.eq_11)) (ai (ai @CI.sem.eq_12 @CI.sem.eq_13) (ai @CI.sem.eq_14 @CI.sem.eq_15))))) (ai (ai (ai (ai @CI.sem.eq_16 (ai @CI.sem.eq_17
 @CI.sem.eq_18)) (ai (ai @CI.sem.eq_19 @CI.sem.eq_20) (ai @CI.sem.eq_21 @CI.sem.eq_22))) (ai (ai @CI.sem.eq_23 (ai @CI.sem.eq_24 @CI.sem.eq_25)) (ai (ai @CI.sem.eq_26 @CI.sem.eq_27)
 (ai @CI.sem.eq_28 @CI.sem.eq_29)))) (ai (ai (ai @CI.sem.eq_30 (ai @CI.sem.eq_31 @CI.sem.eq_32)) (ai (ai @CI.sem.eq_33 @CI.sem.eq_34) (ai @CI.sem.eq_35 @CI.sem.eq_36))) (ai (ai (ai
 @CI.sem.eq_37 @CI.sem.eq_38) (ai @CI.sem.eq_39 @CI.sem.eq_40)) (ai (ai @CI.sem.eq_41 @CI.sem.eq_42) (ai @CI.sem.eq_43 @CI.sem.eq_44)))))) (ai (ai (ai (ai (ai @CI.sem.eq_45 (ai
 @CI.touch.eq_1 @CI.touch.eq_2)) (ai (ai @CI.touch.eq_3 @CI.touch.eq_4) (ai @CI.touch.eq_5 @CI.touch.eq_6))) (ai (ai @CI.touch.eq_7 (ai @CI.touch.eq_8 @CI.touch.eq_9)) (ai (ai
 @CI.touch.eq_10 @CI.touch.eq_11) (ai @CI.touch.eq_12 @CI.touch.eq_13)))) (ai (ai (ai @CI.touch.eq_14 (ai @CI.touch.eq_15 @CI.touch.eq_16)) (ai (ai @CI.touch.eq_17 @CI.touch.eq_18)
 (ai @CI.touch.eq_19 @CI.touch.eq_20))) (ai (ai @lV.eq_1 (ai @lV.eq_2 @lV.eq_3)) (ai (ai @CI.use.eq_1 @CI.use.eq_2) (ai @CI.use.eq_3 @CI.use.eq_4))))) (ai (ai (ai (ai
 @CI.use.eq_5 (ai @CI.use.eq_6 @CI.use.eq_7)) (ai (ai @AV.vecId.eq_1 @AV.vecId.eq_2) (ai @AV.vecId.eq_3 @AV.hdl.eq_1))) (ai (ai @AV.hdl.eq_2 (ai @AV.hdl.eq_3 @AV.hdl.eq_4)) (ai (ai
 @AV.hdl.eq_5 @AV.hdl.eq_6) (ai @AV.hdl.eq_7 @gb.eq_1)))) (ai (ai (ai @X.ev.eq_1 (ai @X.ev.eq_2 @j4.eq_1)) (ai (ai @j4.eq_2 @Go.Bb.look.eq_1) (ai @Go.Bb.look.eq_2
 @mC.eq_1))) (ai (ai (ai @tY.eq_1 @ret.eq_1) (ai @AV.bool?.eq_1 @AV.bool?.eq_2)) (ai (ai @AV.int?.eq_1 @AV.int?.eq_2) (ai @AV.num?.eq_1 @AV.num?.eq_2))))))) (ai (ai (ai (ai
 (ai (ai @AV.str?.eq_1 (ai @AV.str?.eq_2 @AV.sc?.eq_1)) (ai (ai @AV.sc?.eq_2 @jR.eq_1) (ai @jR.eq_2 @jR.eq_3))) (ai (ai @slA.eq_1 (ai @slA.eq_2 @slA.eq_3)) (ai (ai @slA.eq_4
 @slA.eq_5) (ai @oT.eq_1 @oT.eq_2)))) (ai (ai (ai @oU.eq_1 (ai @oU.eq_2 @cU.eq_1)) (ai (ai @cU.eq_2 @cU.eq_3) (ai @cU.eq_4 @cU.eq_5))) (ai (ai @cU.eq_6
 (ai @cU.eq_7 @cU.eq_8)) (ai (ai @cU.eq_9 @cU.eq_10) (ai @cU.eq_11 @cU.eq_12))))) (ai (ai (ai (ai @cU.eq_13 (ai @cU.eq_14 @cU.eq_15)) (ai (ai @cU.eq_16
 @cU.eq_17) (ai @cU.eq_18 @cU.eq_19))) (ai (ai @cU.eq_20 (ai @cU.eq_21 @cU.eq_22)) (ai (ai @cU.eq_23 @cU.eq_24) (ai @cU.eq_25 @jQ.eq_1)))) (ai (ai (ai @jQ.eq_2
 (ai @jQ.eq_3 @jQ.eq_4)) (ai (ai @mr.eq_1 @mr.eq_2) (ai @mr.eq_3 @mr.eq_4))) (ai (ai (ai @pC.eq_1 @pC.eq_2) (ai @pC.eq_3 @pC.eq_4)) (ai (ai @rJ.eq_1
 @rJ.eq_2) (ai @rJ.eq_3 @fu.eq_1)))))) (ai (ai (ai (ai (ai @fu.eq_2 (ai @fu.eq_3 @fu.eq_4)) (ai (ai @fu.eq_5 @fu.eq_6) (ai @fu.eq_7 @fu.eq_8))) (ai (ai
 @fu.eq_9 (ai @fu.eq_10 @fu.eq_11)) (ai (ai @mw.eq_1 @mw.eq_2) (ai @mw.eq_3 @mw.eq_4)))) (ai (ai (ai @mw.eq_5 (ai @pD.eq_1 @pD.eq_2)) (ai (ai
 @pD.eq_3 @pD.eq_4) (ai @qo.eq_1 @qo.eq_2))) (ai (ai (ai @qo.eq_3 @nk.eq_1) (ai @pz.eq_1 @pz.eq_2)) (ai (ai @vv.eq_1 @vv.eq_2) (ai @mY.eq_1
 @mY.eq_2))))) (ai (ai (ai (ai @gx.eq_1 (ai @gx.eq_2 @qh.eq_1)) (ai (ai @qh.eq_2 @rl.eq_1) (ai @rl.eq_2 @lY.eq_1))) (ai (ai @lY.eq_2 (ai @qN.eq_1 @vd.eq_1))
 (ai (ai @gQ.eq_1 @gQ.eq_2) (ai @gQ.eq_3 @gQ.eq_4)))) (ai (ai (ai @xR.eq_1 (ai @oB.eq_1 @oB.eq_2)) (ai (ai @oB.eq_3 @iL.eq_1) (ai @iL.eq_2
 @iL.eq_3))) (ai (ai (ai @iL.eq_4 @iL.eq_5) (ai @iL.eq_6 @ym.eq_1)) (ai (ai @yn.eq_1 @oA.eq_1) (ai @oA.eq_2 @ir.eq_1)))))))) (ai (ai (ai (ai (ai
 (ai (ai @ir.eq_2 (ai @oC.eq_1 @oC.eq_2)) (ai (ai @oX.eq_1 @oX.eq_2) (ai @ny.eq_1 @ny.eq_2))) (ai (ai @fO.eq_1 (ai @fO.eq_2 @lM.eq_1)) (ai (ai
 @lM.eq_2 @nM.eq_1) (ai @nM.eq_2 @nM.eq_3)))) (ai (ai (ai @vJ.eq_1 (ai @qq.eq_1 @qq.eq_2)) (ai (ai @tP.eq_1 @tP.eq_2) (ai @yz.eq_1 @yz.eq_2))) (ai (ai
 @bA.eq_1 (ai @bA.eq_2 @bA.eq_3)) (ai (ai @bA.eq_4 @bA.eq_5) (ai @bA.eq_6 @bA.eq_7))))) (ai (ai (ai (ai @bA.eq_8 (ai @dA.eq_1 @dA.eq_2)) (ai (ai
 @chunk.eq_1 @chunk.eq_2) (ai @AV.toD.eq_1 @AV.toD.eq_2))) (ai (ai @AV.toL.eq_1 (ai @AV.toL.eq_2 @AV.toL.eq_3)) (ai (ai @AV.toL.eq_4 @AV.toL.eq_5) (ai @toLs.eq_1 @toLs.eq_2)))) (ai
 (ai (ai @AV.cells.eq_1 (ai @AV.cells.eq_2 @AV.cells.eq_3)) (ai (ai @AV.row.eq_1 @AV.row.eq_2) (ai @AV.row.eq_3 @AV.leaf.eq_1))) (ai (ai (ai @AV.leaf.eq_2 @AV.leaf.eq_3) (ai
 @AV.leaf.eq_4 @D.leaf.eq_1)) (ai (ai @D.leaf.eq_2 @D.leaf.eq_3) (ai @D.leaf.eq_4 @D.leaf.eq_5)))))) (ai (ai (ai (ai (ai @Go.Value.oneCell'.eq_1 (ai @Go.Value.oneCell'.eq_2
 @Go.Value.oneCell'.eq_3)) (ai (ai @mW.eq_1 @mW.eq_2) (ai @bV.{0,0} @e8.{0,0}))) (ai (ai @eZ.{0,0} (ai @pT.{0,0}
 @dP.{0,0})) (ai (ai @Option.bind_none.{0,0} @ek.{0}) (ai @mS.{0} @pS.{0})))) (ai (ai (ai @nK.{0} (ai
 @false_implies @true_implies)) (ai (ai @and_true @true_and) (ai @and_self @if_true.{1}))) (ai (ai @if_false.{1} (ai @List.set_cons_zero.{0} @List.set_cons_succ.{0})) (ai (ai
 @aY.{0} @b6.{0}) (ai @wk.{0} @List.reverse_nil.{0}))))) (ai (ai (ai (ai @bm.{0} (ai @mO.{0}
 @jj.{0})) (ai (ai @uj.{0} @List.drop_succ_cons.{0}) (ai @jY.{0} @ID))) (ai (ai @IC (ai @Bool.not_true @Bool.not_false)) (ai (ai
 @s5 @Bool.and_true) (ai @Bool.false_and @Bool.and_false)))) (ai (ai (ai @Bool.not_not (ai @Bool.false_bne @Bool.true_bne)) (ai (ai @aQ.{0,0}
 @fC) (ai @Int.natCast_nonneg @dL.{0,0}))) (ai (ai (ai @eq_self.{1} @lU.eq_1) (ai @lU.eq_2 @List.getElem?_cons_zero.{0})) (ai (ai
 @List.getElem?_cons_succ.{0} @aR.{0}) (ai @Option.some.injEq.{0} @D.sc.injEq))))))) (ai (ai (ai (ai (ai (ai @Go.Value.bool.injEq (ai @AV.d.injEq
 @Go.Value.int.injEq)) (ai (ai @D.sl.injEq @exists_eq_left'.{1}) (ai @exists_eq_left.{1} @Bool.false_or))) (ai (ai @Bool.true_or (ai @Option.isNone_some.{0} @Option.isNone_none.{0}))
 (ai (ai @CI.mark.eq_1 @CI.wr.eq_1) (ai @CI.wr.eq_2 @CI.wr.eq_3)))) (ai (ai (ai @CI.wr.eq_4 (ai @CI.wr.eq_5 @CI.wr.eq_6)) (ai (ai @CI.wr.eq_7 @AV.rowId.eq_1) (ai @AV.rowId.eq_2
 @AV.rowId.eq_3))) (ai (ai @AV.rowId.eq_4 (ai @rm.eq_1 @xi.eq_1)) (ai (ai @fo.eq_1 @a4h) (ai @nA @Pt))))) (ai (ai (ai (ai (ai @a36 (ai @a4f (ai @a4a (ai @a4d (ai @a38 (ai @a34 (ai @a30 (ai @a3Z (ai @a3Y (ai @a3X (ai @a3W (ai @a3V @a4e)))))))))))) (ai @a4b @a4c)) (ai (ai
 @Q2 @QE) (ai @PO @a4g))) (ai (ai @PX (ai @PW @yT)) (ai (ai @PZ @Qh) (ai @Q6 @Q5)))) (ai (ai (ai @Qc (ai @Qk @Qm))
 (ai (ai @Qd @Q7) (ai @Ql @Qj))) (ai (ai (ai @Qo @Qn) (ai @Qg @Qb)) (ai (ai @Qi @Qq) (ai @Qr @Qt)))))) (ai (ai
 (ai (ai (ai @Qs (ai @Qe @Qu)) (ai (ai @Qa @Q8) (ai @Qp @PR))) (ai (ai @a2J (ai @yh @iQ.eq_1)) (ai (ai @iQ.eq_2
 @iQ.SameO.eq_1) (ai @iQ.SameO.eq_2 @ZJ)))) (ai (ai (ai @SC (ai @SB @wQ)) (ai (ai @QO @HE) (ai @zM @aggA.eq_1))) (ai (ai (ai
 @kg.eq_1 @kg.eq_2) (ai @kg.eq_3 @V4)) (ai (ai @V7 @SX) (ai @RI @xT.eq_1))))) (ai (ai (ai (ai @xF.eq_1 (ai @H8.eq_1 @H9.eq_1)) (ai (ai @yB.eq_1
 @yB.eq_2) (ai @yB.eq_3 @vD.eq_1))) (ai (ai @vD.eq_2 (ai @vD.eq_3 @vD.eq_4)) (ai (ai @O6.eq_1 @H6.eq_1) (ai @yf.eq_1 @yf.eq_2)))) (ai (ai (ai @yf.eq_3
 (ai @tU.eq_1 @tU.eq_2)) (ai (ai @tV.eq_1 @tV.eq_2) (ai @xz.eq_1 @xz.eq_2))) (ai (ai (ai @AV.keyK.eq_1 @Ee.eq_1) (ai @H7.eq_1 @rI.eq_1)) (ai (ai
 @rI.eq_2 @rI.eq_3) (ai @natLit @Go.undef.eq_1)))))))))
theorem wy:type_of% PG.down:=PG.down
def Nf:=PLift.up (ai (ai (ai (ai (ai (ai (ai @ba (ai @a2c @cq)) (ai @az (ai @de @br))) (ai (ai @fH (ai @bb @vC)) (ai @rF (ai @NS
 @a1B)))) (ai (ai (ai @a2d (ai @a2s @a2e)) (ai @a2f (ai @a2g @a2h))) (ai (ai @GQ (ai @a1G @a1D)) (ai (ai @ou @ov) (ai @NN @a1A)))))
 (ai (ai (ai (ai @a04 (ai @a05 @a06)) (ai @a1j (ai @a1k @a08))) (ai (ai @a09 (ai @a1l @a1m)) (ai @a1a (ai @a1b @a1c)))) (ai (ai
 (ai @a1d (ai @a1n @a1g)) (ai @a1e (ai @a1h @a1i))) (ai (ai @a1f (ai @a07 @NV)) (ai (ai @a1X @a1Q) (ai @NW @NX))))))
 (ai (ai (ai (ai (ai @NY (ai @NZ @O0)) (ai @O3 (ai @a2b @a1Y))) (ai (ai @a1Z (ai @a10 @a11)) (ai @a13 (ai @a14 @a15)))) (ai
 (ai (ai @a16 (ai @NL @a02)) (ai @a0t (ai @a0u @a0G))) (ai (ai @a0M (ai @a0v @a0y)) (ai (ai @a0N @a0O) (ai @a0z @a0A)))))
 (ai (ai (ai (ai @a0P (ai @a0H @a0B)) (ai @a0C (ai @a0D @a0E))) (ai (ai @a0F (ai @a0I @a0J)) (ai @a0w (ai @a0K @a0L))))
 (ai (ai (ai @a0x (ai @NU @a1P)) (ai @a1H (ai @a1I @a1J))) (ai (ai @a1K (ai @a2p @a2q)) (ai (ai @rH @a2r) (ai @a1E
 @a1F))))))) (ai (ai (ai (ai (ai (ai @da (ai @a1o @a1p)) (ai @a1q (ai @a1r @a1s))) (ai (ai @a1t (ai @a1u @a1v)) (ai @a1w (ai @a1z
 @NP)))) (ai (ai (ai @a1y (ai @NO @a1x)) (ai @a1R (ai @a1S @a1T))) (ai (ai @a1V (ai @O1 @a1W)) (ai (ai @O2 @a1U) (ai @a18
 @a19))))) (ai (ai (ai (ai @a2a (ai @a0Q @a0R)) (ai @a0T (ai @a0U @a0V))) (ai (ai @a0W (ai @a0X @a0Y)) (ai @a0Z (ai @a00
 @a0S)))) (ai (ai (ai @a01 (ai @NM @kI)) (ai @a1L (ai @a1M @a1N))) (ai (ai @a1O (ai @a2i @a2j)) (ai (ai @a2k @a2l) (ai @a2m
 @a2n)))))) (ai (ai (ai (ai (ai @a2o (ai @a4l @a4k)) (ai @a4t (ai @KK @KM))) (ai (ai @Tv (ai @Tw @Es)) (ai @a3S (ai @JQ
 @JR)))) (ai (ai (ai @Tt (ai @Tu @ej.eq_1)) (ai @cQ.eq_1 (ai @oG.eq_1 @ee.eq_1))) (ai (ai @yL.eq_1 (ai @a4K @ed)) (ai (ai @a4m @a4n) (ai
 @HP.eq_1 @a4o))))) (ai (ai (ai (ai @a4p (ai @a4q @a4r)) (ai @PJ.eq_1 (ai @a4u @fR.eq_1))) (ai (ai @a4v (ai @a4w @vZ.eq_1)) (ai @a4x (ai
 @a4y @a4z)))) (ai (ai (ai @HR.eq_1 (ai @a4A @a4B)) (ai @a4C (ai @a4D @ED.eq_1))) (ai (ai @a4E (ai @a4F @a4G)) (ai (ai @a4H @a4I) (ai
 @a4J @HS.eq_1))))))))
theorem qg:type_of% Nf.down:=Nf.down
end Go.Proofs.Q
namespace Go.Proofs.Q
open Go Go.Bb Go.RowKit Go.Proofs.Lg
theorem aO{A B F C:Prop}(f:F)(c:C)(h:B)(a:F→C→B→A:=by
 intro f c b
 repeat' first|refine ae (fun _=> ?_) fun _=> ?_|refine aL ?_|refine aq.data (c ..) rfl ?_|refine aq.data (c.1 ..) rfl ?_|refine aq.data (c.2 ..) rfl ?_|refine aq.data (c.2.1 ..) rfl ?_|refine aq.data (c.2.2 ..) rfl ?_|refine aq.data (c.2.2.1 ..) rfl ?_|refine aq.data (c.2.2.2 ..) rfl ?_|simp only[f,bne_self_eq_false,lP,lO,ew,mS,ek,nK,pS,jh,fN,lQ,Int.reduceToNat,jZ,aQ,decide_true,decide_false,Int.reduceLE,Int.reduceLT,Int.reduceGE,Int.reduceGT,Int.reduceEq,Int.reduceNe,Int.reduceBEq,Int.reduceBNe,decide_true,decide_false,wy,qg,aH,simprocAttr,aA,aF,aE,aw]
 all_goals exact b):A:=a f c h
theorem bU{A F C:Prop}(f:F)(c:C)(a:F→C→A:=by
 intro f c
 repeat' first|refine ae (fun _=> ?_) fun _=> ?_|refine aL ?_|refine aq.data (c ..) rfl ?_|refine aq.data (c.1 ..) rfl ?_|refine aq.data (c.2 ..) rfl ?_|refine aq.data (c.2.1 ..) rfl ?_|refine aq.data (c.2.2 ..) rfl ?_|refine aq.data (c.2.2.1 ..) rfl ?_|refine aq.data (c.2.2.2 ..) rfl ?_|simp only[f,bne_self_eq_false,lP,lO,ew,mS,ek,nK,pS,jh,fN,lQ,Int.reduceToNat,jZ,aQ,decide_true,decide_false,Int.reduceLE,Int.reduceLT,Int.reduceGE,Int.reduceGT,Int.reduceEq,Int.reduceNe,Int.reduceBEq,Int.reduceBNe,decide_true,decide_false,wy,qg,aH,simprocAttr,aA,aF,aE,aw]
 all_goals first|rfl|exact⟨rfl,rfl⟩|(simp_all;done)):A:=a f c
theorem uV{A B F C:Prop}(f:F)(c:C)(h:B)(a:F→C→B→A:=by
 intro f c b
 repeat' first|refine ae (fun _=> ?_) fun _=> ?_|refine aL ?_|(refine aq.fn ((c ..).mono ?_);rintro _ _ ⟨rfl,rfl⟩)|(refine aq.fn ((c.1 ..).mono ?_);rintro _ _ ⟨rfl,rfl⟩)|(refine aq.fn ((c.2 ..).mono ?_);rintro _ _ ⟨rfl,rfl⟩)|(refine aq.fn ((c.2.1 ..).mono ?_);rintro _ _ ⟨rfl,rfl⟩)|(refine aq.fn ((c.2.2 ..).mono ?_);rintro _ _ ⟨rfl,rfl⟩)|simp only[f,bne_self_eq_false,lP,lO,ew,mS,ek,nK,pS,jh,fN,lQ,Int.reduceToNat,jZ,aQ,decide_true,decide_false,Int.reduceLE,Int.reduceLT,Int.reduceGE,Int.reduceGT,Int.reduceEq,Int.reduceNe,Int.reduceBEq,Int.reduceBNe,decide_true,decide_false,wy,qg,aH,simprocAttr,aA,aF,aE,aw]
 all_goals exact b):A:=a f c h
theorem FF{A F C:Prop}(f:F)(c:C)(a:F→C→A:=by
 intro f c
 repeat' first|refine ae (fun _=> ?_) fun _=> ?_|refine aL ?_|(refine aq.fn ((c ..).mono ?_);rintro _ _ ⟨rfl,rfl⟩)|(refine aq.fn ((c.1 ..).mono ?_);rintro _ _ ⟨rfl,rfl⟩)|(refine aq.fn ((c.2 ..).mono ?_);rintro _ _ ⟨rfl,rfl⟩)|(refine aq.fn ((c.2.1 ..).mono ?_);rintro _ _ ⟨rfl,rfl⟩)|(refine aq.fn ((c.2.2 ..).mono ?_);rintro _ _ ⟨rfl,rfl⟩)|simp only[f,bne_self_eq_false,lP,lO,ew,mS,ek,nK,pS,jh,fN,lQ,Int.reduceToNat,jZ,aQ,decide_true,decide_false,Int.reduceLE,Int.reduceLT,Int.reduceGE,Int.reduceGT,Int.reduceEq,Int.reduceNe,Int.reduceBEq,Int.reduceBNe,decide_true,decide_false,wy,qg,aH,simprocAttr,aA,aF,aE,aw]
 all_goals first|rfl|exact⟨rfl,rfl⟩|(simp_all;done)):A:=a f c
theorem gg2{A B D F C:Prop}(f:F)(c:C)(h:B)(k:D)(a:F→C→B→D→A:=by
 intro f c b d
 repeat' first|refine ae (fun _=> ?_) fun _=> ?_|refine aL ?_|refine aq.data (c ..) rfl ?_|refine aq.data (c.1 ..) rfl ?_|refine aq.data (c.2 ..) rfl ?_|refine aq.data (c.2.1 ..) rfl ?_|refine aq.data (c.2.2 ..) rfl ?_|refine aq.data (c.2.2.1 ..) rfl ?_|refine aq.data (c.2.2.2 ..) rfl ?_|simp only[f,bne_self_eq_false,lP,lO,ew,mS,ek,nK,pS,jh,fN,lQ,Int.reduceToNat,jZ,aQ,decide_true,decide_false,Int.reduceLE,Int.reduceLT,Int.reduceGE,Int.reduceGT,Int.reduceEq,Int.reduceNe,Int.reduceBEq,Int.reduceBNe,decide_true,decide_false,wy,qg,aH,simprocAttr,aA,aF,aE,aw]
 all_goals first|exact b|exact d):A:=a f c h k
theorem ay{A B F C:Prop}(f:F)(c:C)(h:B)(a:F→C→B→A:=by
 intro f c b
 first|((with_reducible refine yY ?ord ?_);case ord=>(first|rfl|exact(DF (by simp only[bV,e8,qT,p6];rfl))))|refine aq.data (c ..) rfl ?_|refine aq.data (c.1 ..) rfl ?_|refine aq.data (c.2 ..) rfl ?_|refine aq.data (c.2.1 ..) rfl ?_|refine aq.data (c.2.2 ..) rfl ?_|refine aq.data (c.2.2.1 ..) rfl ?_|refine aq.data (c.2.2.2 ..) rfl ?_|(refine aq.fn ((c ..).mono ?_);rintro _ _ ⟨rfl,rfl⟩)|(refine aq.fn ((c.1 ..).mono ?_);rintro _ _ ⟨rfl,rfl⟩)|(refine aq.fn ((c.2 ..).mono ?_);rintro _ _ ⟨rfl,rfl⟩)|(refine aq.fn ((c.2.1 ..).mono ?_);rintro _ _ ⟨rfl,rfl⟩)|(refine aq.fn ((c.2.2 ..).mono ?_);rintro _ _ ⟨rfl,rfl⟩)|simp only[f,bne_self_eq_false,lP,lO,ew,mS,ek,nK,pS,jh,fN,lQ,Int.reduceToNat,jZ,aQ,decide_true,decide_false,Int.reduceLE,Int.reduceLT,Int.reduceGE,Int.reduceGT,Int.reduceEq,Int.reduceNe,Int.reduceBEq,Int.reduceBNe,decide_true,decide_false,wy,qg,aH,simprocAttr,aA,aF,aE,aw]
 repeat first|((with_reducible refine yY ?ord ?_);case ord=>(first|rfl|exact(DF (by simp only[bV,e8,qT,p6];rfl))))|refine aq.data (c ..) rfl ?_|refine aq.data (c.1 ..) rfl ?_|refine aq.data (c.2 ..) rfl ?_|refine aq.data (c.2.1 ..) rfl ?_|refine aq.data (c.2.2 ..) rfl ?_|refine aq.data (c.2.2.1 ..) rfl ?_|refine aq.data (c.2.2.2 ..) rfl ?_|(refine aq.fn ((c ..).mono ?_);rintro _ _ ⟨rfl,rfl⟩)|(refine aq.fn ((c.1 ..).mono ?_);rintro _ _ ⟨rfl,rfl⟩)|(refine aq.fn ((c.2 ..).mono ?_);rintro _ _ ⟨rfl,rfl⟩)|(refine aq.fn ((c.2.1 ..).mono ?_);rintro _ _ ⟨rfl,rfl⟩)|(refine aq.fn ((c.2.2 ..).mono ?_);rintro _ _ ⟨rfl,rfl⟩)|simp only[f,bne_self_eq_false,lP,lO,ew,mS,ek,nK,pS,jh,fN,lQ,Int.reduceToNat,jZ,aQ,decide_true,decide_false,Int.reduceLE,Int.reduceLT,Int.reduceGE,Int.reduceGT,Int.reduceEq,Int.reduceNe,Int.reduceBEq,Int.reduceBNe,decide_true,decide_false,wy,qg,aH,simprocAttr,aA,aF,aE,aw]
 exact b):A:=a f c h
theorem ax{A F C:Prop}(f:F)(c:C)(a:F→C→A:=by
 intro f c
 repeat first|((with_reducible refine yY ?ord ?_);case ord=>(first|rfl|exact(DF (by simp only[bV,e8,qT,p6];rfl))))|refine aq.data (c ..) rfl ?_|refine aq.data (c.1 ..) rfl ?_|refine aq.data (c.2 ..) rfl ?_|refine aq.data (c.2.1 ..) rfl ?_|refine aq.data (c.2.2 ..) rfl ?_|refine aq.data (c.2.2.1 ..) rfl ?_|refine aq.data (c.2.2.2 ..) rfl ?_|(refine aq.fn ((c ..).mono ?_);rintro _ _ ⟨rfl,rfl⟩)|(refine aq.fn ((c.1 ..).mono ?_);rintro _ _ ⟨rfl,rfl⟩)|(refine aq.fn ((c.2 ..).mono ?_);rintro _ _ ⟨rfl,rfl⟩)|(refine aq.fn ((c.2.1 ..).mono ?_);rintro _ _ ⟨rfl,rfl⟩)|(refine aq.fn ((c.2.2 ..).mono ?_);rintro _ _ ⟨rfl,rfl⟩)|simp only[f,bne_self_eq_false,lP,lO,ew,mS,ek,nK,pS,jh,fN,lQ,Int.reduceToNat,jZ,aQ,decide_true,decide_false,Int.reduceLE,Int.reduceLT,Int.reduceGE,Int.reduceGT,Int.reduceEq,Int.reduceNe,Int.reduceBEq,Int.reduceBNe,decide_true,decide_false,wy,qg,aH,simprocAttr,aA,aF,aE,aw]
 all_goals fail):A:=a f c
theorem cB{A:Prop}(h:A:=by first|omega|(intros;omega)|((repeat' split)<;>(intros;omega))):A:=h
theorem ae{A B D p q:Prop}(h:p→B)(k:q→D)(a:(p→B)→(q→D)→A:=by
 intro h k
 with_reducible first|exact dv.dec h k|exact dv.ndec h k|exact dv.both h k|exact nE.both h k):A:=a h k
theorem aL{A B:Prop}(h:B)(a:B→A:=by
 intro h
 (with_reducible refine yY ?ord h);case ord=>(first|rfl|exact(DF (by simp only[bV,e8,qT,p6];rfl)))):A:=a h
theorem aB{A:Prop}(h:A:=by simp only[wy,qg,aH,simprocAttr,aA,aF,aE,aw];try rfl):A:=h
theorem ga{p q:Prop}(h:p)(k:q):p∧q:=⟨h,k⟩
theorem ab:True:=trivial
end Go.Proofs.Q
namespace Go.Proofs.Q
open Go Go.Proofs.Lg
abbrev W(n:Int):Int:=IntKind.i64.wrap n
abbrev bh:=ByteArray
def iG:List (Int×Int)→Int
 |x::l=>if x.1<x.2 then-1 else if x.2<x.1 then 1 else iG l
 |[]=>0
def bS(a b:Dg):Int:=iG (a.l.zip b.l)
def pK{α:Type}[DecidableEq α]:List (α×α)→Bool
 |x::l=>if x.1=x.2 then pK l else false
 |[]=>true
def same{α:Type}[DecidableEq α](a b:List α):Bool:=if a.length=b.length then pK (a.zip b)else false
def hasB:List UInt8→Nat→Nat→Bool
 |[],_,_=>true
 |c::l,x,y=>if c.toNat=x∨c.toNat=y then false else hasB l x y
def clean(b:bh)(x y:Nat):Bool:=hasB b.data.toList x y
def la(b:bh):Bool:=decide ((b.size:Int)≤1000)&&clean b 10 0
def vR:List bh→Int→Int
 |[],n=>n
 |x::l,n=>vR l (W (n+x.size))
def uW(l:List bh):Bool:=decide (40<(l.length:Int))||decide (3000<vR l 0)
def vn(c:UInt8):Bool:=(decide (97≤(c.toNat:Int))&&decide ((c.toNat:Int)≤122))||(decide (65≤(c.toNat:Int))&&decide ((c.toNat:Int)≤90))||(decide (48≤(c.toNat:Int))&&decide ((c.toNat:Int)≤57))||decide ((c.toNat:Int)=46)||decide ((c.toNat:Int)=95)||decide ((c.toNat:Int)=45)
def oo:List UInt8→Bool
 |[]=>true
 |c::l=>if vn c then oo l else false
def isName(b:bh):Bool:=oo b.data.toList&&decide (1≤(b.size:Int))&&decide ((b.size:Int)≤40)&& !decide (b=⟨#[46]⟩)&& !decide (b=⟨#[46,46]⟩)
def isZero(d:Dg):Bool:=decide (d= .zero)
def cY(a b:af):Int:=if bS a.p b.p≠0 then bS a.p b.p else if a.n<b.n then-1 else if b.n<a.n then 1 else 0
def gG:List af→Bool
 |x::y::r=>if 0≤cY x y then false else gG (y::r)
 |_=>true
def jE(x:af):List af→Nat→Nat
 |[],k=>k
 |y::l,k=>if cY y x<0 then jE x l (k+1)else k
def nX(l:List af)(x:af):List af:=if l[jE x l 0]?=some x then l else l.take (jE x l 0)++x::l.drop (jE x l 0)
def dh:List af→af→Bool
 |[],_=>false
 |y::l,x=>if y=x then true else dh l x
def lr(c:aC):aC where
 kind:=c.kind
 file:=if 2≤c.kind∧c.kind≤6 then .zero else c.file
 type:=if c.kind=1 then 0 else c.type
 parent:=if c.kind=2 then .zero else c.parent
 name:=if c.kind=2 then⟨#[]⟩else c.name
 mode:=if c.kind=3 then 0 else c.mode
 data:=if c.kind=4 then⟨#[]⟩else c.data
 after:=if c.kind=5∨c.kind=6 then .zero else c.after
 before:=if c.kind=5∨c.kind=6 then .zero else c.before
 lines:=if c.kind=5 then[]else c.lines
 over:=if c.kind≠1∧c.kind≠5 then[]else c.over
def pb(c:aC):Bool:=decide (c.file= .zero)&&(decide (c.type=0)&&(decide (c.parent= .zero)&&(decide (c.name=⟨#[]⟩)&&(decide (c.mode=0)&&(decide (c.data=⟨#[]⟩)&&(decide (c.after= .zero)&&(decide (c.before= .zero)&&(decide ((c.lines.length:Int)=0)&&decide ((c.over.length:Int)=0)))))))))
def lg:List bh→Int
 |[]=>0
 |x::l=>if la x then lg l else 3
def nZ(l:List bh):Int:=if(l.length:Int)=0 then 1 else if 2000<(l.length:Int)then 4 else lg l
def ft(c:aC):Int:=
 if c.kind<1∨7<c.kind then 8
 else if pb (lr c)=false then 1
 else if c.kind=1∧(c.type<1∨4<c.type)then 8
 else if c.kind=2∧isName c.name=false then 5
 else if c.kind=3∧(c.mode<0∨511<c.mode)then 2
 else if 65536<(c.data.size:Int)then 4
 else if c.kind=5 then nZ c.lines
 else if c.kind=7∧(c.over.length:Int)=0 then 1
 else if 400<(c.over.length:Int)then 4
 else if gG c.over=false then 9
 else 0
def allowed(x:af)(first:Int):Bool:=if isZero x.p then decide (0≤x.n)&&decide (x.n<first)else decide (0≤x.n)&&decide (x.n<100000)
def vW(k:Int):Int:=if k=7 then 0 else k
def nw(k:Int):Bool:=decide (k=5)||decide (k=6)
def fE(k:Int)(x:au):Bool:=if x.kind≠1 then false else if nw k then decide (x.type=1)else decide (k≠4)||(decide (x.type=2)||decide (x.type=3))
def nT(f:af)(x:au):Bool:=decide (x.kind=5)&&decide (x.file=f)
def pf(k:Int)(f:af)(x:au):Bool:=decide (vW k=0)||(decide (x.kind=vW k)&&decide (x.file=f))
def jL(x:af)(own:List au)(a:Bool):Int:=if allowed x own.length=false then 7 else if isZero x.p&& !a then 8 else 0
def j6(own:List au)(x:af):au:=if isZero x.p=true∧0≤x.n∧x.n<own.length then(own[x.n.toNat]?).getD .zero else .zero
def zQ(c:aC)(own:List au)(x:af):Int:=jL x own (decide (x=c.file)||nT c.file (j6 own x))
def kD(c:aC)(own:List au):List af→Int
 |[]=>0
 |x::l=>if jL x own (pf c.kind c.file (j6 own x))≠0 then jL x own (pf c.kind c.file (j6 own x))else kD c own l
def xo(c:aC):Int:=if c.kind=2∧c.parent=c.file then 20 else if nw c.kind=true∧c.after=c.before∧(c.kind=6∨c.after≠c.file)then 1 else 0
def bQ(a b:Int):Int:=if a≠0 then a else b
def rK(c:aC)(own:List au):Int:=if 2≤c.kind∧c.kind≤6 then jL c.file own (fE c.kind (j6 own c.file))else 0
def vG(c:aC)(own:List au):Int:=if c.kind=2∧c.parent≠⟨.zero,-1⟩then jL c.parent own (decide ((j6 own c.parent).kind=1)&&decide ((j6 own c.parent).type=4))else 0
def qY(c:aC)(own:List au):List af→Int
 |[]=>0
 |x::l=>if zQ c own x≠0 then zQ c own x else qY c own l
def tN(c:aC)(own:List au):Int:=if nw c.kind=true then qY c own [c.after,c.before]else 0
def gO(c:aC)(own:List au):Int:=bQ (rK c own) (bQ (vG c own) (bQ (tN c own) (bQ (kD c own c.over) (xo c))))
def dM(n:Int):af:=⟨.zero,n⟩
def xr(c:aC)(first:Nat)(i:Nat)(s:bh):au:={au.zero with id:=dM (first+i),kind:=5,file:=c.file,text:=s}
def qb(c:aC)(first k i:Nat):au:={au.zero with id:=dM (first+k+i),kind:=6,file:=c.file,fro:=if 0<i then dM (first+i-1)else c.after,til:=if i<k then dM (first+i)else c.before}
def fh(c:aC)(first:Nat):List au:=
 if c.kind=1 then[{au.zero with id:=dM first,kind:=1,file:=dM first,type:=c.type}]
 else if c.kind=2 then[{au.zero with id:=dM first,kind:=2,file:=c.file,parent:=c.parent,name:=c.name,over:=c.over}]
 else if c.kind=3 then[{au.zero with id:=dM first,kind:=3,file:=c.file,mode:=c.mode,over:=c.over}]
 else if c.kind=4 then[{au.zero with id:=dM first,kind:=4,file:=c.file,data:=c.data,over:=c.over}]
 else if c.kind=6 then[{au.zero with id:=dM first,kind:=6,file:=c.file,fro:=c.after,til:=c.before,over:=c.over}]
 else if c.kind=7 then[{au.zero with id:=dM first,kind:=7,over:=c.over}]
 else(c.lines.mapIdx (xr c first))++(List.range (c.lines.length+1)).map (qb c first c.lines.length)
def dW:List aC→List au→List au×Int
 |[],own=>(own,0)
 |c::l,own=>if ft c≠0 then([],ft c)else if gO c own≠0 then([],gO c own)else dW l (own++fh c own.length)
def iF:Option Dg→List Dg→Int
 |_,[]=>0
 |p,d::l=>if isZero d then 1 else if(p.map fun q=>decide (0≤bS q d))=some true then 9 else iF (some d) l
def gl(l:List Dg):Int:=if 100<(l.length:Int)then 4 else iF none l
def dw(p:aX):List au×Int:=
 if isName p.author=false then([],5)
 else if 1000<(p.message.size:Int)then([],4)
 else if p.time<0∨1099511627776<p.time then([],2)
 else if gl p.deps≠0 then([],gl p.deps)
 else if(p.changes.length:Int)=0 then([],1)
 else if 400<(p.changes.length:Int)then([],4)
 else dW p.changes []
end Go.Proofs.Q
namespace Go.Proofs.Q
open Go Go.Ab Go.Bb
def C3:CF:=⟨13, (kq [kM 4 (ku 0)] (kq [om 5 0,om 6 1,o4 7 .shr 5 6,om 8 0,om 9 1,o0 10 (.bin .sub (.c (.d (.sc (.int .u64 32)))) (.t 9)),o4 11 .shl 8 10,o4 12 .or 7 11,om 4 12] .ret)),[.tmp 4]⟩
theorem XJ:aN Tryz.prog [] 229=some C3.erase:=by kernel_rfl
def C6:CF:=⟨13, (kq [kM 2 (.c (.d (.sc (.string ⟨#[]⟩))))] (kq [kM 3 (.c (.d (.sc (.string ⟨#[]⟩))))] (.seq (kq [o7 4 0] (.block 0 (.loop (.trim [4,3,0] (.seq (kq [om 5 4,om 6 0,o4 7 .lss 5 6] (kd 7 .skip (.exit 0))) (.seq (.block 1 (fo [om 10 3,o0 11 (.bin .add (.t 10) (.c (.d (.sc (.string ⟨#[0]⟩))))),om 3 11])) (fo [om 8 4,o5 9 .add 8 1,om 4 9]))))))) (kq [om 12 3,om 2 12] .ret)))),[.tmp 2]⟩
theorem XM:aN Tryz.prog [] 226=some C6.erase:=by kernel_rfl
def C2:CF:=⟨35, (kq [kM 2 (.c (.d (.sc (.string ⟨#[]⟩))))] (kq [om 6 0,o0 7 (.bin .add (.t 6) (.c (.d (.sc (.string ⟨#[128]⟩))))),om 3 7] (kq [om 8 3,om 9 3,o9 10 1 9,o5 11 .rem 10 64,o0 12 (.bin .sub (xi 120) (.t 11)),o5 13 .rem 12 64,o6 14 226 [.t 13],o4 15 .add 8 14,om 3 15] (kq [om 16 0,o9 17 1 16,o0 18 (.cnv .u64 (.t 17)),o0 19 (.bin .mul (.t 18) (.c (.d (.sc (.int .u64 8))))),om 4 19] (.seq (kq [o7 5 7] (.block 0 (.loop (.trim [5,4,3] (.seq (kq [om 20 5,o5 21 .geq 20 0] (kd 21 .skip (.exit 0))) (.seq (.block 1 (fo [om 24 3,om 25 4,om 26 5,o0 27 (.bin .mul (xi 8) (.t 26)),o0 28 (.cnv .u64 (.t 27)),o4 29 .shr 25 28,o0 30 (.cnv .u8 (.t 29)),o0 31 (.bsf 1 1 [(.d (.sc (.int .u8 0)))] [(0,1,(.t 30))]),o0 32 (.b2s (.t 31)),o4 33 .add 24 32,om 3 33])) (fo [om 22 5,o5 23 .sub 22 1,om 5 23]))))))) (kq [om 34 3,om 2 34] .ret)))))),[.tmp 2]⟩
theorem XI:aN Tryz.prog [100031] 170=some C2.erase:=by kernel_rfl
def C4:CF:=⟨86, (kq [kB 2 z64] (kq [o0 8 (.bld z64 []),kB 3 z64,o8 64 3 8] (.seq (kq [o7 4 0] (.block 0 (.loop (.trim [4,3,0,2] (.seq (kq [om 9 4,o5 10 .lss 9 16] (kd 10 .skip (.exit 0))) (.seq (.block 1 (.ops true [0,0,0,4,14,30,62,0,0,256,768,1920,3968,8064,16382,0,0,65536,196608,491520,1015808,2064384,4194302,0,0,16777216,50331648,125829120,260046848,536870910,1073741823,2147483647] [om 13 4,om 14 0,om 15 4,o0 16 (.bin .mul (xi 4) (.t 15)),o0 17 (.six (.t 14) (.t 16)),o0 18 (.cnv .u32 (.t 17)),o0 19 (.bin .shl (.t 18) (.c (.d (.sc (.int .u64 24))))),om 20 0,om 21 4,o0 22 (.bin .mul (xi 4) (.t 21)),o5 23 .add 22 1,o0 24 (.six (.t 20) (.t 23)),o0 25 (.cnv .u32 (.t 24)),o0 26 (.bin .shl (.t 25) (.c (.d (.sc (.int .u64 16))))),o4 27 .or 19 26,om 28 0,om 29 4,o0 30 (.bin .mul (xi 4) (.t 29)),o5 31 .add 30 2,o0 32 (.six (.t 28) (.t 31)),o0 33 (.cnv .u32 (.t 32)),o0 34 (.bin .shl (.t 33) (.c (.d (.sc (.int .u64 8))))),o4 35 .or 27 34,om 36 0,om 37 4,o0 38 (.bin .mul (xi 4) (.t 37)),o5 39 .add 38 3,o0 40 (.six (.t 36) (.t 39)),o0 41 (.cnv .u32 (.t 40)),o4 42 .or 35 41,o0 43 (.iap 64 1 (.t 3) (.t 13)),o8 1 43 42])) (fo [om 11 4,o5 12 .add 11 1,om 4 12]))))))) (.seq (kq [o7 5 16] (.block 2 (.loop (.trim [5,3,2] (.seq (kq [om 44 5,o5 45 .lss 44 64] (kd 45 .skip (.exit 2)))
 (.seq (.block 3 (.seq (.ops true [0,1,3,7,0,16,48,112,15,511] [om 48 5,o5 49 .sub 48 15,o0 50 (.iap 64 1 (.t 3) (.t 49)),o3 51 50,om 52 5,o5 53 .sub 52 2,o0 54 (.iap 64 1 (.t 3) (.t 53)),o3 55 54,om 6 51,om 7 55]) (.ops true [0,0,2,0,14,30,0,64,254,0,512,1536,3584,8190,0,16414,0,114718,245790,0,524288,2080798,4194302,0,8388608,25165824,58720256,134217726,268435455,536870911] [om 56 5,om 57 7,o6 58 229 [.t 57,(.c (.d (.sc (.int .u64 17))))],om 59 7,o6 60 229 [.t 59,(.c (.d (.sc (.int .u64 19))))],o4 61 .xor 58 60,om 62 7,o0 63 (.bin .shr (.t 62) (.c (.d (.sc (.int .u64 10))))),o4 64 .xor 61 63,om 65 5,o5 66 .sub 65 7,o0 67 (.iap 64 1 (.t 3) (.t 66)),o3 68 67,o4 69 .add 64 68,om 70 6,o6 71 229 [.t 70,(.c (.d (.sc (.int .u64 7))))],om 72 6,o6 73 229 [.t 72,(.c (.d (.sc (.int .u64 18))))],o4 74 .xor 71 73,om 75 6,o0 76 (.bin .shr (.t 75) (.c (.d (.sc (.int .u64 3))))),o4 77 .xor 74 76,o4 78 .add 69 77,om 79 5,o5 80 .sub 79 16,o0 81 (.iap 64 1 (.t 3) (.t 80)),o3 82 81,o4 83 .add 78 82,o0 84 (.iap 64 1 (.t 3) (.t 56)),o8 1 84 83]))) (fo [om 46 5,o5 47 .add 46 1,om 5 47]))))))) (kq [o2 85 64 3,o8 64 2 85] .ret))))),[.cell 2 (some 64)]⟩
theorem XK:aN Tryz.prog [300008] 227=some C4.erase:=by kernel_rfl
def C5:CF:=⟨114, (kq [o0 2 (.box (.t 0)),kB 4 z8] (kq [om 14 1,o6 15 227 [.t 14],o6 16 228 [],kB 5 z64,kB 6 z64,o8 64 5 15,o8 64 6 16] (kq [o2 17 8 2,kB 7 z8,o8 8 7 17] (.seq (kq [o7 8 0] (.block 0 (.loop (.trim [8,7,5,6,2,4] (.seq (kq [om 18 8,o5 19 .lss 18 64] (kd 19 .skip (.exit 0))) (.seq (.block 1 (.seq (.ops true [0,1,0,4,3,31] [o0 22 (.iap 8 1 (.t 7) (xi 0)),o3 23 22,o0 24 (.iap 8 1 (.t 7) (xi 4)),o3 25 24,om 9 23,om 10 25]) (.seq (.ops true [0,1,0,4,0,28,60,0,188,508,1023,0,0,4096,14336,0,32768,0,131072,491520,1046528,2097151,0,4194304,12582912,33554431,0,67108864,201326592,536870911,1073741823] [o0 26 (.iap 8 1 (.t 7) (xi 7)),o3 27 26,om 28 10,o6 29 229 [.t 28,(.c (.d (.sc (.int .u64 6))))],om 30 10,o6 31 229 [.t 30,(.c (.d (.sc (.int .u64 11))))],o4 32 .xor 29 31,om 33 10,o6 34 229 [.t 33,(.c (.d (.sc (.int .u64 25))))],o4 35 .xor 32 34,o4 36 .add 27 35,om 37 10,o0 38 (.iap 8 1 (.t 7) (xi 5)),o3 39 38,o4 40 .and 37 39,om 41 10,o0 42 (.un .xor (.t 41)),o0 43 (.iap 8 1 (.t 7) (xi 6)),o3 44 43,o4 45 .and 42 44,o4 46 .xor 40 45,o4 47 .add 36 46,om 48 8,o0 49 (.iap 64 1 (.t 6) (.t 48)),o3 50 49,o4 51 .add 47 50,om 52 8,o0 53 (.iap 64 1 (.t 5) (.t 52)),o3 54 53,o4 55 .add 51 54,om 11 55])
 (.seq (.ops true [0,1,0,7,15,0,47,127,0,0,512,1792,0,0,8192,28672,65280,0,131072,0,524288,1966080,4194048,8388607,16777215] [om 56 9,o6 57 229 [.t 56,(.c (.d (.sc (.int .u64 2))))],om 58 9,o6 59 229 [.t 58,(.c (.d (.sc (.int .u64 13))))],o4 60 .xor 57 59,om 61 9,o6 62 229 [.t 61,(.c (.d (.sc (.int .u64 22))))],o4 63 .xor 60 62,om 64 9,o0 65 (.iap 8 1 (.t 7) (xi 1)),o3 66 65,o4 67 .and 64 66,om 68 9,o0 69 (.iap 8 1 (.t 7) (xi 2)),o3 70 69,o4 71 .and 68 70,o4 72 .xor 67 71,o0 73 (.iap 8 1 (.t 7) (xi 1)),o3 74 73,o0 75 (.iap 8 1 (.t 7) (xi 2)),o3 76 75,o4 77 .and 74 76,o4 78 .xor 72 77,o4 79 .add 63 78,om 12 79]) (fo [om 80 11,om 81 12,o4 82 .add 80 81,o0 83 (.iap 8 1 (.t 7) (xi 0)),o3 84 83,o0 85 (.iap 8 1 (.t 7) (xi 1)),o3 86 85,o0 87 (.iap 8 1 (.t 7) (xi 2)),o3 88 87,o0 89 (.iap 8 1 (.t 7) (xi 3)),o3 90 89,om 91 11,o4 92 .add 90 91,o0 93 (.iap 8 1 (.t 7) (xi 4)),o3 94 93,o0 95 (.iap 8 1 (.t 7) (xi 5)),o3 96 95,o0 97 (.iap 8 1 (.t 7) (xi 6)),o3 98 97,o0 99 (.bld z8 [(0,1,(.t 82)),(1,1,(.t 84)),(2,1,(.t 86)),(3,1,(.t 88)),(4,1,(.t 92)),(5,1,(.t 94)),(6,1,(.t 96)),(7,1,(.t 98))]),o8 8 7 99]))))) (fo [om 20 8,o5 21 .add 20 1,om 8 21]))))))) (.seq (kq [o7 13 0] (.block 2 (.loop (.trim [13,2,7,4] (.seq (kq [om 100 13,o5 101 .lss 100 8] (kd 101 .skip (.exit 2)))
 (.seq (.block 3 (.ops true [0,0,2,6,0,16,48,126,255,511] [om 104 13,om 105 13,o0 106 (.iap 8 1 (.t 2) (.t 105)),o3 107 106,om 108 13,o0 109 (.iap 8 1 (.t 7) (.t 108)),o3 110 109,o4 111 .add 107 110,o0 112 (.iap 8 1 (.t 2) (.t 104)),o8 1 112 111])) (fo [om 102 13,o5 103 .add 102 1,om 13 103]))))))) (kq [o2 113 8 2,o8 8 4 113] .ret)))))),[.cell 4 (some 8)]⟩
theorem XL:aN Tryz.prog [300099] 171=some C5.erase:=by kernel_rfl
def C1:CF:=⟨2, (kq [kB 0 z64] (kq [o0 1 (.bld z64 [(0,1,(ku 1116352408)),(1,1,(ku 1899447441)),(2,1,(ku 3049323471)),(3,1,(ku 3921009573)),(4,1,(ku 961987163)),(5,1,(ku 1508970993)),(6,1,(ku 2453635748)),(7,1,(ku 2870763221)),(8,1,(ku 3624381080)),(9,1,(ku 310598401)),(10,1,(ku 607225278)),(11,1,(ku 1426881987)),(12,1,(ku 1925078388)),(13,1,(ku 2162078206)),(14,1,(ku 2614888103)),(15,1,(ku 3248222580)),(16,1,(ku 3835390401)),(17,1,(ku 4022224774)),(18,1,(ku 264347078)),(19,1,(ku 604807628)),(20,1,(ku 770255983)),(21,1,(ku 1249150122)),(22,1,(ku 1555081692)),(23,1,(ku 1996064986)),(24,1,(ku 2554220882)),(25,1,(ku 2821834349)),(26,1,(ku 2952996808)),(27,1,(ku 3210313671)),(28,1,(ku 3336571891)),(29,1,(ku 3584528711)),(30,1,(ku 113926993)),(31,1,(ku 338241895)),(32,1,(ku 666307205)),(33,1,(ku 773529912)),(34,1,(ku 1294757372)),(35,1,(ku 1396182291)),(36,1,(ku 1695183700)),(37,1,(ku 1986661051)),(38,1,(ku 2177026350)),(39,1,(ku 2456956037)),(40,1,(ku 2730485921)),(41,1,(ku 2820302411)),(42,1,(ku 3259730800)),(43,1,(ku 3345764771)),(44,1,(ku 3516065817)),(45,1,(ku 3600352804)),(46,1,(ku 4094571909)),(47,1,(ku 275423344)),(48,1,(ku 430227734)),(49,1,(ku 506948616)),(50,1,(ku 659060556)),(51,1,(ku 883997877)),(52,1,(ku 958139571)),(53,1,(ku 1322822218)),(54,1,(ku 1537002063)),(55,1,(ku 1747873779)),(56,1,(ku 1955562222)),(57,1,(ku 2024104815)),(58,1,(ku 2227730452)),(59,1,(ku 2361852424)),(60,1,(ku 2428436474)),(61,1,(ku 2756734187)),(62,1,(ku 3204031479)),(63,1,(ku 3329325298))]),o8 64 0 1] .ret)),[.cell 0 (some 64)]⟩
theorem XH:aN Tryz.prog [300001] 228=some C1.erase:=by kernel_rfl
def C0:CF:=⟨44, (kq [kB 2 ej] (kq [o0 8 (.bld z8 [(0,1,(ku 1779033703)),(1,1,(ku 3144134277)),(2,1,(ku 1013904242)),(3,1,(ku 2773480762)),(4,1,(ku 1359893119)),(5,1,(ku 2600822924)),(6,1,(ku 528734635)),(7,1,(ku 1541459225))]),kB 3 z8,o8 8 3 8] (kq [om 9 0,o6 10 170 [.t 9],om 4 10] (.seq (kq [o7 5 0] (.block 0 (.loop (.trim [5,3,4,2] (.seq (kq [om 11 5,o5 12 .add 11 64,om 13 4,o9 14 1 13,o4 15 .leq 12 14] (kd 15 .skip (.exit 0))) (.seq (.block 1 (.ops true [0,0,0,0,8,30,63,127] [o2 18 8 3,om 19 4,om 20 5,om 21 5,o5 22 .add 21 64,o0 23 (.sls (.t 19) (some (.t 20)) (some (.t 22))),o6 24 171 [.t 18,.t 23],o8 8 3 24])) (fo [om 16 5,o5 17 .add 16 64,om 5 17]))))))) (kq [o0 25 (.bld ej []),kB 6 ej,o8 32 6 25] (.seq (kq [o7 7 0] (.block 2 (.loop (.trim [7,6,3,2] (.seq (kq [om 26 7,o5 27 .lss 26 32] (kd 27 .skip (.exit 2))) (.seq (.block 3 (fo [om 30 7,om 31 7,o5 32 .quo 31 4,o0 33 (.iap 8 1 (.t 3) (.t 32)),o3 34 33,om 35 7,o5 36 .rem 35 4,o0 37 (.bin .mul (xi 8) (.t 36)),o0 38 (.bin .sub (xi 24) (.t 37)),o0 39 (.cnv .u64 (.t 38)),o4 40 .shr 34 39,o0 41 (.cnv .u8 (.t 40)),o0 42 (.iap 32 1 (.t 6) (.t 30)),o8 1 42 41])) (fo [om 28 7,o5 29 .add 28 1,om 7 29]))))))) (kq [o2 43 32 6,o8 32 2 43] .ret))))))),[.cell 2 (some 32)]⟩
theorem XG:aN Tryz.prog [300008,300025] 116=some C0.erase:=by kernel_rfl
end Go.Proofs.Q
