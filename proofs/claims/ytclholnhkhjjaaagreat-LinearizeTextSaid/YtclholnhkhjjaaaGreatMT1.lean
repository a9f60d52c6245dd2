/-
  Part MT1 of this claim's proof. Joined by merge.py from the texts of wip/tpl.
-/
import Derived.Test.YtclholnhkhjjaaaGreatMT0
set_option linter.unusedVariables false
set_option linter.unusedSimpArgs false
set_option linter.unnecessarySimpa false
namespace Go.Proofs.Lg
open Go Go.RowKit Go.Shelf Go.Maps
open Go.Ab (RD RDs KeepI)
attribute [local go_sem] Oper.semAt_some
theorem info_TRegion : (Tryz.prog.info? 107).map (fun i => (i.zero, i.size, i.bytes)) = some (some (.agg #[.bool false, .slice none 0 0, .slice none 0 0]), 3, 56) := by kernel_rfl
theorem info_strs : (Tryz.prog.info? 56).map (fun i => (i.zero, i.size, i.bytes)) = some (some (.slice none 0 0), 1, 24) := by kernel_rfl
set_option maxRecDepth 100000 in
set_option maxHeartbeats 4000000 in
theorem Text_mem (I : Nat → Nat) (vl ve : Value) (g : Gr) (w : World) (hg : GrAt w vl ve g) (hI : RD I w (.agg #[vl, ve]) (dGraph g)) :
   Calls Tryz.prog 23 #[.agg #[vl, ve]] w fun e w' => ∃ v, e = .returned v ∧ RD (Go.Bb.bigI I w.heap.size w') w' v (dTRegs ((regionsL g.reach g.living).map (treg g.lines))) ∧ Below w.heap.size w w' := by
 have hgo : GrOk g := GrOk_of hg
 have HGO := Lib.hid hgo
 have HID := Lib.hid hI
 clear hgo hI
 obtain ⟨al, cl, ml, rfl⟩ : ∃ a c m, vl = .slice a m c := by obtain ⟨a, c, h, _⟩ := hg.lines; exact ⟨a, c, _, h⟩
 obtain ⟨ae, ce, me, rfl⟩ : ∃ a c m, ve = .slice a m c := by obtain ⟨a, c, h, _⟩ := hg.edges; exact ⟨a, c, _, h⟩
 have hB0 : Hid (Below w.heap.size w ((w.alloc (.cells #[.slice al ml cl, .slice ae me ce] 25)).alloc (.cells #[.slice none 0 0] 52))) := ((Below.refl _ _).alloc (Nat.le_refl _) _).alloc (by simp) _
 have HB := Lib.hid (begin_any _ _ g _ (hg.below (Below.mono hB0.out (Nat.le_refl _))))
 have hfew := hg.few
 clear hg
 refine (callsIn_wide (n := 6)).1 (callsIn_of_wp_marks Tryz.func23 rfl trivial ?_ rfl)
 simp only [Tryz.ntmps23, List.size_toArray, List.length_cons, List.length_nil, Nat.reduceAdd, Nat.reduceSub, Array.replicate_succ, Array.replicate_zero, List.push_toArray, List.append_toArray, List.nil_append, List.cons_append]
 gi_wp2_with (fail)
 refine ⟨trivial, ?_⟩
 refine (callsIn_wide.2 HB.out).mono ?_
 rintro e w1 ⟨vl', ve', vr, vv, rfl, ho, hb1⟩
 have HB1 : Hid (Below w.heap.size w w1) := hB0.out.trans (hb1.mono hB0.out.size)
 have HBX : Hid (w1.heap[w.heap.size + 1]? = some (.cells #[.slice none 0 0] 52 (0, 0))) := heap_below hb1 (by rw [show w.heap.size + 1 = (w.alloc (.cells #[.slice al ml cl, .slice ae me ce] 25)).heap.size by simp]; exact heap_alloc_new _ _)
 have hgb1 : w1.heap[w.heap.size]? = some (.cells #[.slice al ml cl, .slice ae me ce] 25 (0, 0)) := heap_below hb1 ((Below.heap_alloc _ _ _ (by simp)).trans (heap_alloc_new w _))
 have HGB1 := Lib.hid hgb1
 clear hgb1
 have hsz1 : w.heap.size + 2 ≤ w1.heap.size := by have := hb1.size; simpa using this
 have HO := Lib.hid ho
 clear ho hb1 HB hB0
 gi_wp2_with (fail)
 refine ⟨trivial, ?_⟩
 refine (callsIn_wide.2 (regions_any vl' ve' vr vv w1)).mono ?_
 rintro e w2 ⟨rfl, hw2⟩
 have F : w2.heap.size = w1.heap.size + 1 ∧ Below w1.heap.size w1 w2 ∧ w2.cell? ⟨w1.heap.size, 0, none⟩ = some vl' ∧ w2.cell? ⟨w1.heap.size, 1, none⟩ = some ve' ∧ w2.cell? ⟨w1.heap.size, 2, none⟩ = some vr ∧ w2.cell? ⟨w1.heap.size, 3, none⟩ = some vv := by
   subst hw2
   exact ⟨by simp, (Below.refl _ _).alloc (Nat.le_refl _) _, by simp [go_sem], by simp [go_sem], by simp [go_sem], by simp [go_sem]⟩
 obtain ⟨f1, f2, f3, f4, f5, f6⟩ := F
 have hbx2 := heap_below f2 HBX.out
 have HGB := Lib.hid (heap_below f2 HGB1.out)
 have hseq := regions1_toldN 5 (by omega) w1.heap.size g.dim w2.heap.size (w.heap.size + 1) 52 vl' ve' vr vv g.reach g.living w2 (Nat.le_refl _) (by omega) (by omega) (by omega) hbx2 HO.out.l HO.out.e
   ((HO.out.r.below f2).notBox g.sq hbx2) ((HO.out.v.below f2).notBox (fun u hu e => by subst e; simp [ints] at hu) hbx2) g.sq (by have := g.dim_le; omega) g.living_lt (by have := g.living_len; omega) g.transR f3 f4 f5 f6
 have HSEQ := Lib.hid hseq
 have HI0 : Hid (TxtAt g.lines #[.slice al ml cl, .slice ae me ce] I w w2.heap.size (w.heap.size + 1) [] w2) := ⟨HGB.out, ⟨_, [], hbx2, World.ownsRow_nil _ _ _ _, rfl, fun i c x h => by simp at h⟩, Nat.le_refl _, HB1.out.trans (f2.mono HB1.out.size)⟩
 have hsz2 : w1.heap.size + 1 ≤ w2.heap.size := by omega
 have hll : g.living.length ≤ 1000000 := by have := g.living_len; omega
 clear hw2 f1 f2 f3 f4 f5 f6 hbx2 hseq HO HBX
 gi_wp2
 refine wpIn_rangeFunc_told rfl (by decide) (gf := 82) (lb := #[.pointer (some ⟨w1.heap.size, 0, none⟩)]) rfl trivial (enters_of Tryz.func82 (by kernel_rfl) rfl) HSEQ.out (Below.refl _ _) (fun _ => rfl)
   (fun xs W => TxtAt g.lines #[.slice al ml cl, .slice ae me ce] I w w2.heap.size (w.heap.size + 1) xs W) (fun xs A B h hb => txtAt_below h hb) (fun xs => steady_txtAt (by omega) (by omega) xs) (fun x W l o o' hl h h1 h2 hk => ⟨steady_regOk (B := w2.heap.size) _ _ W l o o' hl h h1 h2 hk.1, hk.2⟩) KeepsR.trans (fun A => steady_keepsR (by omega) (by omega) A) (KeepsR.refl _ _)
   HI0.out
   (fun x a' W => ∃ Bx, W.heap[Bx]? = some (.cells (regCells x.1).toArray 45 (0, 0)) ∧ a' = { tmps := #[.agg #[.slice al ml cl, .slice ae me ce], .pointer (some ⟨w.heap.size, 0, none⟩), .slice none 0 0, .pointer (some ⟨w.heap.size + 1, 0, none⟩), .pointer (some ⟨Bx, 0, none⟩), undef, undef, undef, .agg #[.slice al ml cl, .slice ae me ce], .agg #[vl', ve', vr, vv], .func (.func 82) #[] #[.pointer (some ⟨w1.heap.size, 0, none⟩)], x.1, undef, undef, undef, undef, undef, undef, undef, undef, undef, undef, undef, undef, undef, undef, undef, undef, undef, undef, undef, undef, undef, undef, undef, undef, undef, undef, undef, undef], defers := [] })
   (fun x a' A l o o' hl h h1 h2 ⟨Bx, hb, ha⟩ => ⟨Bx, by rw [World.putObj_heap_other (by rintro rfl; rw [hb] at h; cases h; simp [Obj.isCells] at h1)]; exact hb, ha⟩) ?assign ?body ?done
 case assign =>
   rintro l pre ⟨x, r⟩ W K hI hT hK
   obtain ⟨vl3, vs3, us, hx, k1, k2, k3⟩ := hT.1.1
   dsimp only at hx
   obtain ⟨a1, c1, hv1⟩ := ownsRow_form k1
   obtain ⟨a2, c2, hv2⟩ := ownsRow_form k2
   dsimp only at hv1
   clear k1 k2 k3
   obtain ⟨cb, hcb⟩ : ∃ cb, r.conflict = cb := ⟨_, rfl⟩
   obtain ⟨nl, hnl⟩ : ∃ nl, r.lines.length = nl := ⟨_, rfl⟩
   rw [hnl] at hv1
   rw [hv1, hv2, hcb] at hx
   have HI := Lib.hid hI
   have HT := Lib.hid hT
   clear hI hT hv1 hv2 hcb hnl
   subst hx
   gi_wp2
   have hba : Below W.heap.size W (W.alloc (.cells #[.bool cb, .slice a1 nl c1, .slice a2 us.length c2] 45)) := (Below.refl _ _).alloc (Nat.le_refl _) _
   exact hK _ _ ((KeepsOthers.alloc _ _).from _) (KeepsR.of_below HI.out.2.2.1 (HI.out.2.1.elim fun _ h => h.elim fun _ h => h.1.lt) hba) (txtAt_below HI.out hba) ⟨HT.out.1.below hba, HT.out.2⟩ ⟨W.heap.size, World.alloc_heap_new W _, rfl⟩
 case body =>
   rintro l pre ⟨x, r⟩ a' W hI hT ⟨Bx, hbx, rfl⟩ hlt
   have HLT := Lib.hid hlt
   have HLIV := Lib.hid hll
   obtain ⟨vl3, vs3, us, hx, k1, k2, k3⟩ := id hT.1.1
   dsimp only at hx
   obtain ⟨a1, c1, hv1⟩ := ownsRow_form k1
   obtain ⟨a2, c2, hv2⟩ := ownsRow_form k2
   dsimp only at hv1 k1 k3
   subst hv1 hv2
   have q0 : W.cell? ⟨Bx, 0, none⟩ = some (.bool r.conflict) := by rw [cell_of_heap hbx, hx]; rfl
   have q1 : W.cell? ⟨Bx, 1, none⟩ = some (.slice a1 r.lines.length c1) := by rw [cell_of_heap hbx, hx]; rfl
   have q2 : W.cell? ⟨Bx, 2, none⟩ = some (.slice a2 us.length c2) := by rw [cell_of_heap hbx, hx]; rfl
   have hbxl := cell_lt q0
   obtain ⟨hgc, ⟨v, cs, hv, hrow, hlc, hcs⟩, hn0, hBw⟩ := hI
   obtain ⟨av, cv, hvv⟩ := ownsRow_form hrow
   subst hvv
   have g0 : W.cell? ⟨w.heap.size, 0, none⟩ = some (.slice al ml cl) := by rw [cell_of_heap hgc]; rfl
   have g1 : W.cell? ⟨w.heap.size, 1, none⟩ = some (.slice ae me ce) := by rw [cell_of_heap hgc]; rfl
   have hgl := cell_lt g0
   have hlv := hv.lt
   have HX := Lib.hid hx
   have HBXX := Lib.hid hbx
   have HK := Lib.hid (And.intro k1 (And.intro k2 k3))
   have HV := Lib.hid (And.intro hgc (And.intro hv hrow))
   have HCS := Lib.hid (And.intro hlc hcs)
   have HBW := Lib.hid hBw
   have HSM := Lib.hid hT.1.2
   have HMM := Lib.hid hT.2
   obtain ⟨cf, hcf⟩ : ∃ cf, r.conflict = cf := ⟨_, rfl⟩
   obtain ⟨nl, hnl⟩ : ∃ nl, r.lines.length = nl := ⟨_, rfl⟩
   rw [hcf] at q0
   rw [hnl] at q1
   have HCF := Lib.hid hcf
   have HNL := Lib.hid hnl
   clear hx k1 k2 k3 hgc hv hrow hlc hcs hBw hbx hT hcf hnl
   refine wpIn_block ?_
   refine wpIn_seq_k fun K hK => ?_
   have hgd : ∀ (ex : Nat → Bool) (Wc : World), Below w.heap.size w Wc → RD (fz I w.heap.size ex Wc) Wc (.agg #[.slice al ml cl, .slice ae me ce]) (dGraph g) := fun ex Wc hb => HID.out.mono fun b o u ho hc => by
     have hbl := cell_lt hc
     dsimp only at hbl
     exact ⟨by unfold fz; rw [if_pos hbl]; exact ho, (World.cell?_of_block (w := w) (hb.block b hbl)).trans hc⟩
   have HGD := Lib.hid hgd
   have hrl : ∀ k, (Value.slice av cs.length cv).ownBlock = some k → k < W.heap.size := fun k hk => (HV.out.2.2.lt k hk).2
   have HRL := Lib.hid hrl
   clear hgd hrl
   have hcommon : ∀ (X : Nat) (aT : Option Addr) (nT cT : Nat) (W2 : World), W.heap.size ≤ X → Below W.heap.size W W2 → W2.heap[X]? = some (.cells #[.bool cf, .slice aT nT cT, .slice none 0 0] 107 (0, 0)) →
       RD (fz I w.heap.size (exX X (.slice none 0 0) (exB (w.heap.size + 1) (.slice av cs.length cv))) W2) W2 (.slice aT nT cT) (dStrs (txtL g.lines r.lines)) →
       K { tmps := #[.agg #[.slice al ml cl, .slice ae me ce], .pointer (some ⟨w.heap.size, 0, none⟩), .slice none 0 0, .pointer (some ⟨w.heap.size + 1, 0, none⟩), .pointer (some ⟨Bx, 0, none⟩), .pointer (some ⟨X, 0, none⟩), undef, undef, .agg #[.slice al ml cl, .slice ae me ce], .agg #[vl', ve', vr, vv], .func (.func 82) #[] #[.pointer (some ⟨w1.heap.size, 0, none⟩)], x, .pointer (some ⟨Bx, 0, none⟩), .bool cf, .agg #[.slice al ml cl, .slice ae me ce], .pointer (some ⟨Bx, 1, none⟩), .slice a1 nl c1, .slice aT nT cT, .agg #[.bool cf, .slice aT nT cT, .slice none 0 0], undef, undef, undef, undef, undef, undef, undef, undef, undef, undef, undef, undef, undef, undef, undef, undef, undef, undef, undef, undef, undef], defers := [] } W2 := by
     intro X aT nT cT W2 hX hb2 hcell hrd
     refine hK _ _ ?_
     clear hK K
     have z2 := below_cell hb2 q2
     have z0 : W2.cell? ⟨X, 0, none⟩ = some (.bool cf) := by rw [cell_of_heap hcell]; rfl
     have hXl := cell_lt z0
     have HC2 := Lib.hid hcell
     have HB2 := Lib.hid hb2
     have HR2 := Lib.hid hrd
     clear hcell hb2 hrd z0 q0 q1 q2 g0 g1
     gi_wp2
     gi_loopw [22] (fun i' ws => ∃ (k : Nat) (vS : Value) (es : List Value), i' = .int .i64 k ∧ k ≤ us.length ∧ Below W.heap.size W ws ∧ ws.heap[X]? = some (.cells #[.bool cf, .slice aT nT cT, vS] 107 (0, 0)) ∧ ws.ownsRow (X + 1) 56 1 vS es.length es ∧ es.length = k ∧
         RD (fz I w.heap.size (exX X vS (exB (w.heap.size + 1) (.slice av cs.length cv))) ws) ws (.slice aT nT cT) (dStrs (txtL g.lines r.lines)) ∧
         (∀ (i : Nat) (u : Value) (s : List Nat), es[i]? = some u → r.sides[i]? = some s → RD (fz I w.heap.size (exX X vS (exB (w.heap.size + 1) (.slice av cs.length cv))) ws) ws u (dStrs (txtL g.lines s)) ∧ u.oneCell' = true))
       (fun i' _ => us.length - (intOf i').toNat)
     case atStart => exact ⟨0, .slice none 0 0, [], rfl, Nat.zero_le _, HB2.out, HC2.out, World.ownsRow_nil _ _ _ _, rfl, HR2.out, fun i u s h => by simp at h⟩
     case round =>
       obtain ⟨k, vS, es, rfl, hk, hbw, hcx, hrw, hel, hr1, hr2⟩ := hrel
       by_cases hlt : k < us.length
       · have hkl : k < r.sides.length := by have := HK.out.2.2.1; omega
         have hir := ownsRow_below HK.out.2.1 hbw
         obtain ⟨a9, c9, hv9, _, _, h9⟩ := ownsRow_slAt hir
         obtain ⟨b3, off3, ha9, hc9⟩ := h9 (fun e => by rw [e] at hlt; simp at hlt)
         have hcell3 := hc9 k us[k] (List.getElem?_eq_getElem hlt)
         have hb3 : a2 = some ⟨b3, off3, none⟩ := by injection hv9 with e1 _ _; rw [e1, ha9]
         clear hc9 h9 hv9 ha9
         clear hir
         have hus := HK.out.2.2.2 k us[k] r.sides[k] (List.getElem?_eq_getElem hlt) (List.getElem?_eq_getElem hkl)
         obtain ⟨a5, c5, hu5⟩ := ownsRow_form hus
         rw [hu5] at hcell3 hus
         subst hb3
         have hbl3 := cell_lt hcell3
         obtain ⟨aS, cS, hvS⟩ := ownsRow_form hrw
         subst hvS
         have x2 : wr.cell? ⟨X, 2, none⟩ = some (.slice aS es.length cS) := by rw [cell_of_heap hcx]; rfl
         have hxl := cell_lt x2
         have fx : wr.frozen? ⟨X, 2, none⟩ = false := frozen_of_heap hcx
         have gg0 : wr.cell? ⟨w.heap.size, 0, none⟩ = some (.slice al ml cl) := below_cell hbw (by rw [cell_of_heap HV.out.1]; rfl)
         have gg1 : wr.cell? ⟨w.heap.size, 1, none⟩ = some (.slice ae me ce) := below_cell hbw (by rw [cell_of_heap HV.out.1]; rfl)
         have hggl := cell_lt gg0
         have HUS := Lib.hid hus
         have HBR := Lib.hid hbw
         have HCX := Lib.hid hcx
         have HRW := Lib.hid hrw
         have HR1 := Lib.hid hr1
         have HR2s := Lib.hid hr2
         obtain ⟨n5, hn5⟩ : ∃ n, r.sides[k].length = n := ⟨_, rfl⟩
         rw [hn5] at hcell3
         have HN5 := Lib.hid hn5
         rw [hel] at x2
         have HNS := Lib.hid hel
         clear hus hu5 hbw hcx hrw hr1 hr2 hn5 hel
         have hlk : ∀ j ∈ r.sides[k], j < g.lines.length := fun j hj => reg_in HMM.out j (List.mem_append_right _ (List.mem_flatten.2 ⟨_, List.getElem_mem hkl, hj⟩))
         have hlk2 : r.sides[k].length ≤ 1000000 := Nat.le_trans ((reg_bounds g).2 r HMM.out |>.2.2 _ (List.getElem_mem hkl)) hfew
         have HLK := Lib.hid (And.intro hlk hlk2)
         clear hlk hlk2
         gi_wp2_with (fail)
         obtain ⟨C, hC⟩ : ∃ C : World → Prop, C = fun w' => w'.cell? ⟨X, 2, none⟩ = some (.slice aS k cS) ∧ w'.cell? ⟨w.heap.size, 0, none⟩ = some (.slice al ml cl) ∧ w'.cell? ⟨w.heap.size, 1, none⟩ = some (.slice ae me ce) := ⟨_, rfl⟩
         have hC0 : C wr.drew := by rw [hC]; exact ⟨x2, gg0, gg1⟩
         have hneC : Nonempty (Cls C) := ⟨⟨_, hC0⟩⟩
         have c1' : ∀ p : Cls C, p.w.cell? ⟨X, 2, none⟩ = some (.slice aS k cS) := by subst hC; exact fun p => p.h.1
         have c2' : ∀ p : Cls C, p.w.cell? ⟨w.heap.size, 0, none⟩ = some (.slice al ml cl) := by subst hC; exact fun p => p.h.2.1
         have c3' : ∀ p : Cls C, p.w.cell? ⟨w.heap.size, 1, none⟩ = some (.slice ae me ce) := by subst hC; exact fun p => p.h.2.2
         have HCC := Lib.hid hC
         clear hC
         refine wpIn_region_ord C 8 [(0, true), (1, true), (2, true), (3, true), (4, false), (5, false), (6, false), (7, true), (8, false)] (by kernel_rfl) (by rintro ⟨_, _, h⟩; exact h) (by kernel_rfl) (by kernel_rfl) hC0 ?_
         iterate 4 (refine wpOrd_pure rfl (fun _ _ _ _ h => h) rfl (fun K hK => ?_); go_simp; refine hK _ ?_; clear hK K)
         have hdw : Below wr.heap.size wr wr.drew := (Below.refl _ _).drew
         refine wpOrd_eff rfl rfl (fun K hK => ?_)
         go_simp
         refine (linTexts_mem (F := fz I w.heap.size (exX X (.slice aS es.length cS) (exB (w.heap.size + 1) (.slice av cs.length cv))) wr.drew) HGO.out HLK.out.1 HLK.out.2 (HGD.out _ _ (HBW.out.trans ((HBR.out.trans (hdw.mono HBR.out.size)).mono HBW.out.size))) (by rw [← HN5.out]; exact ownsRow_below HUS.out (HBR.out.trans (hdw.mono HBR.out.size)))).mono ?_
         rintro e w3 ⟨u3, rfl, hrd3, hb3'⟩
         obtain ⟨a3, c3, uT3, rfl, _⟩ := Go.Ab.RD.sl_inv hrd3
         generalize ((txtL g.lines r.sides[k]).map strow).length = n3 at hrd3
         have HRD3 := Lib.hid hrd3
         clear hrd3
         have bw3 : Below wr.heap.size wr w3 := hdw.trans hb3'
         refine hK _ _ (.inr ?_) ?_
         · rw [HCC.out]; exact ⟨below_cell bw3 x2, below_cell bw3 gg0, below_cell bw3 gg1⟩
         clear hK K
         refine wpOrd_eff rfl rfl (fun K hK => ?_)
         go_simp
         have bw4 : Below wr.heap.size wr (w3.alloc (.cells #[.slice a3 n3 c3] 56)) := bw3.alloc bw3.size _
         refine hK _ _ (.inr ?_) ?_
         · rw [HCC.out]; exact ⟨below_cell bw4 x2, below_cell bw4 gg0, below_cell bw4 gg1⟩
         clear hK K
         have hw34 : (w3.alloc (.cells #[.slice a3 n3 c3] 56)).heap.size = w3.heap.size + 1 := by simp
         have own31 : (w3.alloc (.cells #[.slice a3 n3 c3] 56)).ownsRow w3.heap.size 56 1 (.slice (some ⟨w3.heap.size, 0, none⟩) 1 1) 1 [.slice a3 n3 c3] :=
           ⟨rfl, .inr ⟨w3.heap.size, 1, _, rfl, Nat.le_refl _, heap_alloc_new w3 _, Nat.le_refl _, by decide, rfl, rfl⟩⟩
         have hrow4 : (w3.alloc (.cells #[.slice a3 n3 c3] 56)).ownsRow (X + 1) 56 1 (.slice aS k cS) k es := by rw [← HNS.out]; exact ownsRow_below HRW.out bw4
         have hrb := fun j (hj : (Value.slice aS k cS).ownBlock = some j) => hrow4.lt j hj
         have hrbw : ∀ j, (Value.slice aS k cS).ownBlock = some j → X + 1 ≤ j ∧ j < wr.heap.size := fun j hj => (by rw [← HNS.out] at hj; exact HRW.out.lt j hj)
         have hX4 := heap_below bw4 HCX.out
         rw [HNS.out] at hX4
         have hkb : k ≤ 2000000 := by have h1 := HSM.out.1; omega
         refine wpOrd_eff rfl rfl (fun K hK => ?_)
         refine wp_app _ _ _ (by rfl) (X + 1) 56 (.slice none 0 0) 1 24 Tryz.underlying105 info_strs rfl (by decide) _ k es (by rfl) hrow4 _ 1 [.slice a3 n3 c3] (by rfl) (ownsRow_slAt own31).src (fun u hu => by rw [List.mem_singleton.1 hu]; rfl) (by omega) (by omega) (by rw [hw34]; have := bw3.size; omega) ?_
         intro a4 c4 w5 own5 grow5 hat5
         have hX5 : w5.heap[X]? = some (.cells #[.bool cf, .slice aT nT cT, .slice aS k cS] 107 (0, 0)) := (grow5.block X (by rw [hw34]; have := bw3.size; omega) (fun e => by have := (hrb X e.symm).1; omega)).trans hX4
         have hG5 : ∀ b, b < (w3.alloc (.cells #[.slice a3 n3 c3] 56)).heap.size → (Value.slice aS k cS).ownBlock ≠ some b → w5.heap[b]? = (w3.alloc (.cells #[.slice a3 n3 c3] 56)).heap[b]? := fun b hb hne => grow5.block b hb (fun e => hne e.symm)
         have hgw : w.heap.size < wr.heap.size := hggl
         have hg5 : w5.heap[w.heap.size]? = (w3.alloc (.cells #[.slice a3 n3 c3] 56)).heap[w.heap.size]? := hG5 _ (by rw [hw34]; have := bw3.size; omega) (fun e => by have := (hrb _ e).1; have := HBW.out.size; omega)
         refine hK _ _ (.inr ?_) ?_
         · rw [HCC.out]; exact ⟨by rw [cell_of_heap hX5]; rfl, (World.cell?_of_block (w := w3.alloc (.cells #[.slice a3 n3 c3] 56)) hg5).trans (below_cell bw4 gg0), (World.cell?_of_block (w := w3.alloc (.cells #[.slice a3 n3 c3] 56)) hg5).trans (below_cell bw4 gg1)⟩
         clear hK K
         have fx5 : w5.frozen? ⟨X, 2, none⟩ = false := frozen_of_heap hX5
         have xx5 : w5.cell? ⟨X, 2, none⟩ = some (.slice aS k cS) := by rw [cell_of_heap hX5]; rfl
         have HW5 := Lib.hid (And.intro own5 (And.intro grow5 (And.intro hat5 (And.intro hX5 hG5))))
         have HRB := Lib.hid hrbw
         clear own5 grow5 hat5 hX5 hG5 hrb hrow4 own31 hX4 hg5 hrbw
         refine wpOrd_pure rfl (fun _ _ _ _ h => h) rfl (fun K hK => ?_); go_simp; refine hK _ ?_; clear hK K
         refine wpOrd_eff rfl rfl (fun K hK => ?_)
         go_simp
         refine hK _ _ (.inl rfl) ?_
         clear hK K
         refine wpOrd_nil ?_
         have hXW : W.heap.size ≤ X := hX
         have hX6 : (w5.setCell ⟨X, 2, none⟩ (.slice a4 (k + 1) c4)).heap[X]? = some (.cells #[.bool cf, .slice aT nT cT, .slice a4 (k + 1) c4] 107 (0, 0)) := by rw [heap_setCell_same HW5.out.2.2.2.1 _]; rfl
         have hB6 : Below W.heap.size W (w5.setCell ⟨X, 2, none⟩ (.slice a4 (k + 1) c4)) := ((HBR.out.trans (bw4.mono HBR.out.size)).grown HW5.out.2.1 (by have := HBR.out.size; have := bw4.size; omega) (fun j hj => by have := (HRB.out j hj).1; omega)).setCell (by show W.heap.size ≤ X; exact hXW) _
         have hO6 := ownsRow_setCell_below HW5.out.1 (a := ⟨X, 2, none⟩) (by show X < X + 1; omega) (.slice a4 (k + 1) c4)
         have hblk : ∀ b, b < w3.heap.size → b ≠ X → (Value.slice aS k cS).ownBlock ≠ some b → (w5.setCell ⟨X, 2, none⟩ (.slice a4 (k + 1) c4)).heap[b]? = w3.heap[b]? := fun b hb h1 h2 =>
           (Below.heap_setCell _ _ _ _ h1).trans ((HW5.out.2.2.2.2 b (by rw [hw34]; omega) h2).trans (Below.heap_alloc _ _ _ hb))
         have hex : ∀ b, b < wr.heap.size → exX X (.slice a4 (k + 1) c4) (exB (w.heap.size + 1) (.slice av cs.length cv)) b = true → exX X (.slice aS k cS) (exB (w.heap.size + 1) (.slice av cs.length cv)) b = true := fun b hb he => by
           rw [exX_iff] at he ⊢
           rcases he with (e | e) | e
           · exact .inl (.inl e)
           · rcases HW5.out.2.2.1 with h | h
             · rw [h] at e; exact .inl (.inr e)
             · rw [h] at e; have h9 := Option.some.inj e; have := bw3.size; simp at h9; omega
           · exact .inr e
         have hne9 : ∀ b, (b < w.heap.size ∨ exX X (.slice aS k cS) (exB (w.heap.size + 1) (.slice av cs.length cv)) b = false) → b ≠ X ∧ (Value.slice aS k cS).ownBlock ≠ some b := fun b hx => by
           have hm0 := HBW.out.size
           rcases hx with hx | hx
           · exact ⟨by omega, fun e => by have := (HRB.out b e).1; omega⟩
           · exact ⟨(fun e => absurd (exX_iff.2 (.inl (.inl e))) (by rw [hx]; simp)), (fun e => absurd (exX_iff.2 (.inl (.inr e))) (by rw [hx]; simp))⟩
         have hkp : KeepI (fz I w.heap.size (exX X (.slice aS k cS) (exB (w.heap.size + 1) (.slice av cs.length cv))) wr) wr (fz I w.heap.size (exX X (.slice a4 (k + 1) c4) (exB (w.heap.size + 1) (.slice av cs.length cv))) (w5.setCell ⟨X, 2, none⟩ (.slice a4 (k + 1) c4))) (w5.setCell ⟨X, 2, none⟩ (.slice a4 (k + 1) c4)) :=
           fz_keep (fun b hb hx => (hblk b (by have := bw3.size; omega) (hne9 b hx).1 (hne9 b hx).2).trans (bw3.block b hb)) fun b _ hb he => hex b hb he
         have hR16 : RD _ (w5.setCell ⟨X, 2, none⟩ (.slice a4 (k + 1) c4)) (.slice aT nT cT) (dStrs (txtL g.lines r.lines)) := (by have := HR1.out; rw [HNS.out] at this; exact this.mono hkp)
         have hR26 : ∀ (i : Nat) (u : Value) (s : List Nat), es[i]? = some u → r.sides[i]? = some s → RD (fz I w.heap.size (exX X (.slice a4 (k + 1) c4) (exB (w.heap.size + 1) (.slice av cs.length cv))) (w5.setCell ⟨X, 2, none⟩ (.slice a4 (k + 1) c4))) (w5.setCell ⟨X, 2, none⟩ (.slice a4 (k + 1) c4)) u (dStrs (txtL g.lines s)) ∧ u.oneCell' = true := fun i u s hu hs => by
           have := HR2s.out i u s hu hs
           rw [HNS.out] at this
           exact ⟨this.1.mono hkp, this.2⟩
         have hR36 : RD (fz I w.heap.size (exX X (.slice a4 (k + 1) c4) (exB (w.heap.size + 1) (.slice av cs.length cv))) (w5.setCell ⟨X, 2, none⟩ (.slice a4 (k + 1) c4))) (w5.setCell ⟨X, 2, none⟩ (.slice a4 (k + 1) c4)) (.slice a3 n3 c3) (dStrs (txtL g.lines r.sides[k])) := by
           have h1 := HRD3.out
           rw [HNS.out] at h1
           have h7 : w.heap.size ≤ wr.drew.heap.size := by simpa using Nat.le_of_lt hgw
           refine (h1.mono (fz_big (ex' := exX X (.slice aS k cS) (exB (w.heap.size + 1) (.slice av cs.length cv))) h7 (fun b hb => ⟨?_, hb⟩) hb3')).mono (fz_keep (fun b hb hx => hblk b hb (hne9 b hx).1 (hne9 b hx).2) fun b _ hb he => ?_)
           · have h8 : b < wr.heap.size := by
               rcases exX_iff.1 hb with (e | e) | e
               · omega
               · exact (HRB.out b e).2
               · rcases exB_iff.1 e with e | e
                 · have := HBR.out.size; omega
                 · have := HRL.out b e; have := HBR.out.size; omega
             simpa using h8
           · by_cases hbw : b < wr.heap.size
             · exact hex b hbw he
             · rw [exX_iff] at he ⊢
               rcases he with (e | e) | e
               · exact .inl (.inl e)
               · rcases HW5.out.2.2.1 with h | h
                 · rw [h] at e; exact .inl (.inr e)
                 · rw [h] at e; have h9 := Option.some.inj e; simp at h9; omega
               · exact .inr e
         have HALL := Lib.hid (And.intro hX6 (And.intro hB6 (And.intro hO6 (And.intro hR16 (And.intro hR26 hR36)))))
         clear hX6 hB6 hO6 hR16 hR26 hR36 hkp hne9 hex hblk xx5 fx5 c1' c2' c3'
         gi_wp2
         go_roundw
         case rel =>
           refine ⟨k + 1, .slice a4 (k + 1) c4, es ++ [.slice a3 n3 c3], by simp, by omega, HALL.out.2.1, HALL.out.1, by rw [List.length_append, HNS.out]; exact HALL.out.2.2.1, by rw [List.length_append, HNS.out]; rfl, HALL.out.2.2.2.1, fun i u s hu hs => ?_⟩
           by_cases hik : i < es.length
           · rw [List.getElem?_append_left hik] at hu
             exact HALL.out.2.2.2.2.1 i u s hu hs
           · have hi9 : i = k := by
               have h9 := (List.getElem?_eq_some_iff.1 hu).1
               rw [List.length_append, List.length_singleton] at h9
               have := HNS.out; omega
             subst hi9
             rw [List.getElem?_append_right (by rw [HNS.out]; exact Nat.le_refl _), HNS.out, Nat.sub_self] at hu
             obtain rfl := Option.some.inj hu
             rw [List.getElem?_eq_getElem hkl] at hs
             obtain rfl := Option.some.inj hs
             exact ⟨HALL.out.2.2.2.2.2, rfl⟩
         case measure => simp [intOf]; omega
       · obtain rfl : k = us.length := by omega
         obtain ⟨aS, cS, hvS⟩ := ownsRow_form hrw
         subst hvS
         rw [hel] at hcx hrw hr1 hr2
         have hv9 : Boxed wr (w.heap.size + 1) 52 (.slice av cs.length cv) := (hbw.block _ HV.out.2.1.lt).trans HV.out.2.1
         have hrow9 := ownsRow_below HV.out.2.2 hbw
         have hneB := hv9.not_row (by decide) hrow9
         have o0 := hv9.cell
         have of0 := hv9.frozen
         have ol := hv9.lt
         have xx0 : wr.cell? ⟨X, 0, none⟩ = some (.bool cf) := by rw [cell_of_heap hcx]; rfl
         have xx1 : wr.cell? ⟨X, 1, none⟩ = some (.slice aT nT cT) := by rw [cell_of_heap hcx]; rfl
         have xx2 : wr.cell? ⟨X, 2, none⟩ = some (.slice aS us.length cS) := by rw [cell_of_heap hcx]; rfl
         have hxl9 := cell_lt xx0
         obtain ⟨i0, hi, hz0, hz1, hz2⟩ := info_parts info_TRegion
         have hnews : ∀ j u, [Value.bool cf, .slice aT nT cT, .slice aS us.length cS][j]? = some u → (wr.alloc (.cells #[.bool cf, .slice aT nT cT, .slice aS us.length cS] 107)).cell? (Addr.add ⟨wr.heap.size, 0, none⟩ j) = some u := by
           intro j u hu
           rw [Addr.add_mid, Nat.zero_add]
           match j, hu with
           | 0, hu => simp at hu; subst hu; simp [go_sem]
           | 1, hu => simp at hu; subst hu; simp [go_sem]
           | 2, hu => simp at hu; subst hu; simp [go_sem]
           | j + 3, hu => simp at hu
         have hcl : cs.length ≤ 3000000 := by
           have h1 := HCS.out.1; have h2 := HLT.out; have h3 := HLIV.out; omega
         have hwn : w2.heap.size ≤ wr.heap.size := by have := hbw.size; omega
         have HNW := Lib.hid hnews
         have HBW9 := Lib.hid (And.intro hbw (And.intro hcx (And.intro hrw (And.intro hr1 hr2))))
         have HV9 := Lib.hid (And.intro hv9 (And.intro hrow9 hneB))
         clear hnews hbw hcx hrw hr1 hr2 hv9 hrow9 hneB
         gi_wp2_with (gi_at_builtin; refine wpListIn_append_own_at _ rfl _ _ 52 rfl w2.heap.size 107 i0 (.agg #[.bool false, .slice none 0 0, .slice none 0 0]) 3 56 Tryz.underlying52 hi hz0 hz1 hz2 rfl (by decide) _ cs.length cs.flatten rfl (HV9.out.2.1.alloc _) ⟨wr.heap.size, 0, none⟩ 1 1 [.bool cf, .slice aT nT cT, .slice aS us.length cS] rfl rfl HNW.out (by simp [Value.oneCell']) (by unfold maxLen; omega) (by omega) (by simp; omega) ?_; intro v' w5 hown' hgrow _ hloc; obtain ⟨g', cap', rfl⟩ := ownsRow_succ hown'; have hv1 := (HV9.out.1.alloc _).kept hgrow HV9.out.2.2; have hc1 := hv1.cell; have hf1 := hv1.frozen)
         obtain ⟨hbw, hcx, hrw, hr1, hr2⟩ := HBW9.out
         obtain ⟨hv9, hrow9, hneB⟩ := HV9.out
         have hgrow2 : (wr.alloc (.cells #[.bool cf, .slice aT nT cT, .slice aS us.length cS] 107)).grownBy w5 (Value.slice av cs.length cv).ownBlock := hgrow
         have hsz4 : (wr.alloc (.cells #[.bool cf, .slice aT nT cT, .slice aS us.length cS] 107)).heap.size = wr.heap.size + 1 := by simp
         have hbA : Below W.heap.size W (wr.alloc (.cells #[.bool cf, .slice aT nT cT, .slice aS us.length cS] 107)) := hbw.alloc hbw.size _
         have hvA : Boxed (wr.alloc (.cells #[.bool cf, .slice aT nT cT, .slice aS us.length cS] 107)) (w.heap.size + 1) 52 (.slice av cs.length cv) := hv9.alloc _
         have hlocA : (Value.slice (some ⟨g', 0, none⟩) (cs.length + 1) cap').ownBlock = (Value.slice av cs.length cv).ownBlock ∨ (Value.slice (some ⟨g', 0, none⟩) (cs.length + 1) cap').ownBlock = some (wr.heap.size + 1) := by rw [← hsz4]; exact hloc
         have hsW := hbw.size
         have hm0 := HBW.out.size
         have hkr : KeepsR w2.heap.size (w.heap.size + 1) W (w5.setCell ⟨w.heap.size + 1, 0, none⟩ (.slice (some ⟨g', 0, none⟩) (cs.length + 1) cap')) :=
           (KeepsR.of_below hn0 hlv hbA).trans (KeepsR.appended hvA (by rw [hsz4]; omega) hneB hgrow2 (hlocA.imp id fun h gg e => by rw [h] at e; have := Option.some.inj e; rw [hsz4]; omega))
         have hrA := hrow9.alloc (.cells #[.bool cf, .slice aT nT cT, .slice aS us.length cS] 107)
         have hko : KeepsOthers W (w5.setCell ⟨w.heap.size + 1, 0, none⟩ (.slice (some ⟨g', 0, none⟩) (cs.length + 1) cap')) :=
           ((KeepsOthers.of_grownBy (grownBy_of_below hbA none) (fun j o e => by cases e)).trans (KeepsOthers.of_grownBy hgrow2 (fun j o e ho => by
             rcases hrA.2 with ⟨h, _⟩ | ⟨gb, cap, cur, h, _, hgb, _⟩
             · rw [h] at e; simp [Value.ownBlock] at e
             · rw [h] at e
               obtain rfl : gb = j := by simpa [Value.ownBlock] using e
               rw [hgb] at ho; cases ho; rfl))).trans (KeepsOthers.setCell _ _ _)
         have hvb : ∀ b, (Value.slice av cs.length cv).ownBlock = some b → w2.heap.size ≤ b ∧ b < W.heap.size := fun b e => ⟨(hrow9.lt b e).1, HRL.out b e⟩
         have hsame : ∀ b, b < wr.heap.size → b ≠ w.heap.size + 1 → (Value.slice av cs.length cv).ownBlock ≠ some b → (w5.setCell ⟨w.heap.size + 1, 0, none⟩ (.slice (some ⟨g', 0, none⟩) (cs.length + 1) cap')).heap[b]? = wr.heap[b]? := fun b hb h1 h2 =>
           (Below.heap_setCell _ _ _ _ h1).trans ((hgrow2.block b (by rw [hsz4]; omega) (fun e => h2 e.symm)).trans (Below.heap_alloc _ _ _ hb))
         have hnew : ∀ b, b < wr.heap.size → exB (w.heap.size + 1) (.slice (some ⟨g', 0, none⟩) (cs.length + 1) cap') b = true → exB (w.heap.size + 1) (.slice av cs.length cv) b = true := fun b hb he => by
           rw [exB_iff] at he ⊢
           rcases he with e | e
           · exact .inl e
           · rcases hlocA with h | h
             · rw [h] at e; exact .inr e
             · rw [h] at e; have := Option.some.inj e; omega
         have hw2m : w.heap.size + 1 < w2.heap.size := by omega
         have hnr : ∀ b, b < w.heap.size → b ≠ w.heap.size + 1 ∧ (Value.slice av cs.length cv).ownBlock ≠ some b := fun b hb => ⟨by omega, fun e => by have := (hvb b e).1; omega⟩
         have hnx : ∀ b, exB (w.heap.size + 1) (.slice av cs.length cv) b = false → b ≠ w.heap.size + 1 ∧ (Value.slice av cs.length cv).ownBlock ≠ some b := fun b hx => ⟨fun e => absurd (exB_iff.2 (.inl e)) (by rw [hx]; simp), fun e => absurd (exB_iff.2 (.inr e)) (by rw [hx]; simp)⟩
         have hkW : KeepI (fz I w.heap.size (exB (w.heap.size + 1) (.slice av cs.length cv)) W) W (fz I w.heap.size (exB (w.heap.size + 1) (.slice (some ⟨g', 0, none⟩) (cs.length + 1) cap')) (w5.setCell ⟨w.heap.size + 1, 0, none⟩ (.slice (some ⟨g', 0, none⟩) (cs.length + 1) cap'))) (w5.setCell ⟨w.heap.size + 1, 0, none⟩ (.slice (some ⟨g', 0, none⟩) (cs.length + 1) cap')) :=
           fz_keep (fun b hb hx => by
             have h1 := hx.elim (hnr b) (hnx b)
             exact (hsame b (by omega) h1.1 h1.2).trans (hbw.block b hb)) fun b _ hb he => hnew b (by omega) he
         have hkr9 : KeepI (fz I w.heap.size (exX X (.slice aS us.length cS) (exB (w.heap.size + 1) (.slice av cs.length cv))) wr) wr (fz I w.heap.size (exB (w.heap.size + 1) (.slice (some ⟨g', 0, none⟩) (cs.length + 1) cap')) (w5.setCell ⟨w.heap.size + 1, 0, none⟩ (.slice (some ⟨g', 0, none⟩) (cs.length + 1) cap'))) (w5.setCell ⟨w.heap.size + 1, 0, none⟩ (.slice (some ⟨g', 0, none⟩) (cs.length + 1) cap')) :=
           fz_keep (fun b hb hx => by
             have h1 := hx.elim (hnr b) (fun h => hnx b (by
               cases h9 : exB (w.heap.size + 1) (.slice av cs.length cv) b with
               | false => rfl
               | true => rw [exX_iff.2 (.inr h9)] at h; cases h))
             exact hsame b hb h1.1 h1.2) fun b _ hb he => exX_iff.2 (.inr (hnew b hb he))
         have hrwl := fun b (hb : (Value.slice aS us.length cS).ownBlock = some b) => hrw.lt b hb
         have hsides : RD (fz I w.heap.size (exB (w.heap.size + 1) (.slice (some ⟨g', 0, none⟩) (cs.length + 1) cap')) (w5.setCell ⟨w.heap.size + 1, 0, none⟩ (.slice (some ⟨g', 0, none⟩) (cs.length + 1) cap'))) (w5.setCell ⟨w.heap.size + 1, 0, none⟩ (.slice (some ⟨g', 0, none⟩) (cs.length + 1) cap')) (.slice aS us.length cS) (.sl 1 ((r.sides.map (txtL g.lines)).map tsrow)) := by
           refine Go.Proofs.Lh.RD_of_SlAtP (ok := fun b => (Value.slice aS us.length cS).ownBlock = some b) (((ownsRow_slAt hrw).slAtP_of (fun k hk => hk)).stays fun b hb hb' => hsame b hb' (by have := (hrwl b hb).1; omega) (fun e => by have := (hrwl b hb).1; have := (hvb b e).2; omega)) (fun b o u hb hc => ?_) ?_ ?_ ?_
           · have h1 := hrwl b hb
             unfold fz
             rw [if_neg (by omega), if_neg (fun e => ?_)]
             · exact Go.Bb.lt_cellsIn hc
             · rcases exB_iff.1 (hnew b h1.2 e) with e | e
               · omega
               · have := (hvb b e).2; omega
           · rw [flat_tsrow]
             refine ⟨by rw [List.length_map, hel]; exact HK.out.2.2.1, fun u hu => ?_, fun i u d hu hd => ?_⟩
             · obtain ⟨i, hi9, rfl⟩ := List.mem_iff_getElem.1 hu
               have hi8 : i < r.sides.length := by have := HK.out.2.2.1; omega
               exact (hr2 i _ _ (List.getElem?_eq_getElem hi9) (List.getElem?_eq_getElem hi8)).2
             · rw [List.getElem?_map] at hd
               obtain ⟨s, hs, rfl⟩ := Option.map_eq_some_iff.1 hd
               exact (hr2 i u s hu hs).1.mono hkr9
           · rw [List.length_map, List.length_map, hel]; exact HK.out.2.2.1
           · intro rr hrr
             obtain ⟨s, _, rfl⟩ := List.mem_map.1 hrr
             rfl
         refine ⟨hko.from _, hkr, (hsame _ (by omega) (by omega) (fun e => by have := (hvb _ e).1; omega)).trans (heap_below hbw HV.out.1), ⟨(.slice (some ⟨g', 0, none⟩) (cs.length + 1) cap'), cs ++ [[.bool cf, .slice aT nT cT, .slice aS us.length cS]], hv1.set _, ?_, by rw [List.length_append, List.length_append, HCS.out.1]; rfl, fun i c x' hc hx' => ?_⟩, Nat.le_trans hn0 hkr.size, ((HBW.out.trans (hbA.mono HBW.out.size)).grown hgrow2 (by rw [hsz4]; omega) (fun j hj => by have := (hvb j hj).1; omega)).setCell (by show w.heap.size ≤ w.heap.size + 1; omega) _⟩
         · have h9 := ownsRow_setCell_below hown' (a := ⟨w.heap.size + 1, 0, none⟩) (by show w.heap.size + 1 < w2.heap.size; omega) (.slice (some ⟨g', 0, none⟩) (cs.length + 1) cap')
           rw [List.length_append, List.flatten_append]
           simpa using h9
         · by_cases hi9 : i < cs.length
           · rw [List.getElem?_append_left hi9] at hc
             rw [List.getElem?_append_left (by rw [← HCS.out.1]; exact hi9)] at hx'
             exact (HCS.out.2 i c x' hc hx').mono hkW
           · have hi8 : i = cs.length := by
               have h9 := (List.getElem?_eq_some_iff.1 hc).1
               rw [List.length_append, List.length_singleton] at h9
               omega
             subst hi8
             rw [List.getElem?_append_right (Nat.le_refl _), Nat.sub_self] at hc
             obtain rfl := Option.some.inj hc
             rw [HCS.out.1, List.getElem?_append_right (Nat.le_refl _), Nat.sub_self] at hx'
             obtain rfl := Option.some.inj hx'
             refine ⟨rfl, fun u hu => ?_, fun i u d hu hd => ?_⟩
             · simp at hu; rcases hu with rfl | rfl | rfl <;> rfl
             · match i with
               | 0 =>
                 simp [dTReg, treg] at hu hd
                 subst hu hd
                 rw [HCF.out]; exact .sc _
               | 1 =>
                 simp [dTReg, treg] at hu hd
                 subst hu hd
                 exact hr1.mono hkr9
               | 2 =>
                 have hd' : (dTReg (treg g.lines r))[2]? = some (.sl 1 ((r.sides.map (txtL g.lines)).map tsrow)) := rfl
                 rw [hd'] at hd
                 obtain rfl := Option.some.inj hd
                 simp at hu
                 subst hu
                 exact hsides
               | i + 3 => simp at hu
   have hlr : ∀ j ∈ r.lines, j < g.lines.length := fun j hj => reg_in HMM.out j (List.mem_append_left _ hj)
   have hll2 : r.lines.length ≤ 1000000 := Nat.le_trans ((reg_bounds g).2 r HMM.out).1 hfew
   have hrl := HRL.out
   have hne : Nonempty (Cls (Keep W)) := ⟨⟨W, Keep.refl W⟩⟩
   have p0 : ∀ p : Cls (Keep W), p.w.cell? ⟨Bx, 0, none⟩ = some (.bool cf) := fun p => below_cell p.h q0
   have p1 : ∀ p : Cls (Keep W), p.w.cell? ⟨Bx, 1, none⟩ = some (.slice a1 nl c1) := fun p => below_cell p.h q1
   have p2 : ∀ p : Cls (Keep W), p.w.cell? ⟨w.heap.size, 0, none⟩ = some (.slice al ml cl) := fun p => below_cell p.h g0
   have p3 : ∀ p : Cls (Keep W), p.w.cell? ⟨w.heap.size, 1, none⟩ = some (.slice ae me ce) := fun p => below_cell p.h g1
   refine wpIn_region_E (Keep W) 8 (by kernel_rfl) (by rintro ⟨_, _, h⟩; exact h) (by kernel_rfl) ?_
   have HCW := Keep.drew W
   refine wpE_pure (i := 0) rfl (by kernel_rfl) (fun _ _ _ _ h => h) rfl HCW (fun K2 hK2 => ?_); go_simp; refine hK2 _ ?_; clear hK2 K2
   refine wpE_pure (i := 1) rfl (by kernel_rfl) (fun _ _ _ _ h => h) rfl HCW (fun K2 hK2 => ?_); go_simp; refine hK2 _ ?_; clear hK2 K2
   refine wpE_pure (i := 2) rfl (by kernel_rfl) (fun _ _ _ _ h => h) rfl HCW (fun K2 hK2 => ?_); go_simp; refine hK2 _ ?_; clear hK2 K2
   refine wpE_pure (i := 3) rfl (by kernel_rfl) (fun _ _ _ _ h => h) rfl HCW (fun K2 hK2 => ?_); go_simp; refine hK2 _ ?_; clear hK2 K2
   refine wpE_pure (i := 4) rfl (by kernel_rfl) (fun _ _ _ _ h => h) rfl HCW (fun K2 hK2 => ?_); go_simp; refine hK2 _ ?_; clear hK2 K2
   refine wpE_two (i := 5) (j := 7) rfl rfl (by kernel_rfl) rfl rfl (fun K2 hK2 => ?_) (fun K2 hK2 => ?_)
   · go_simp
     refine (linTexts_mem (F := fz I w.heap.size (exB (w.heap.size + 1) (.slice av cs.length cv)) W.drew) HGO.out hlr hll2 (HGD.out _ _ (HBW.out.trans (HCW.mono HBW.out.size))) (by rw [← HNL.out]; exact ownsRow_below HK.out.1 HCW)).mono ?_
     rintro e W1 ⟨vt, rfl, hrd, hb1⟩
     obtain ⟨aT, cT, uT, rfl, _⟩ := Go.Ab.RD.sl_inv hrd
     generalize ((txtL g.lines r.lines).map strow).length = nT at hrd
     have HRD := Lib.hid hrd
     clear hrd
     have hKW1 : Keep W W1 := HCW.trans hb1
     refine hK2 _ _ (.inr hKW1) ?_
     clear hK2 K2
     refine wpE_pure (i := 6) rfl (by kernel_rfl) (fun _ _ _ _ h => h) rfl hKW1 (fun K2 hK2 => ?_); go_simp; refine hK2 _ ?_; clear hK2 K2
     refine wpE_one (i := 7) rfl (by kernel_rfl) rfl (fun K2 hK2 => ?_)
     go_simp
     refine hK2 _ _ (.inr (hKW1.trans ((Below.refl _ _).alloc (Nat.le_refl _) _))) ?_
     clear hK2 K2
     refine wpE_one (i := 8) rfl (by kernel_rfl) rfl (fun K2 hK2 => ?_)
     go_simp
     refine hK2 _ _ (.inl rfl) ?_
     clear hK2 K2
     refine wpE_done (by kernel_rfl) ?_
     refine hcommon W1.heap.size aT nT cT _ hKW1.size (hKW1.trans ((Below.refl _ _).alloc (Nat.le_refl _) _)) (heap_alloc_new W1 _) ?_
     refine (HRD.out.mono (fz_big (ex' := exB (w.heap.size + 1) (.slice av cs.length cv)) (by have := HBW.out.size; simpa using this) (fun b hb => ⟨?_, hb⟩) hb1)).mono (fz_keep (fun b hb' _ => Below.heap_alloc _ _ _ hb') fun b _ hb' he => ?_)
     · rcases exB_iff.1 hb with rfl | hb
       · simpa using hlv
       · have := hrl b hb; simpa using this
     · rcases exX_iff.1 he with (e | e) | e
       · omega
       · cases e
       · exact e
   · go_simp
     have hKA : Keep W ((W.alloc (.cells #[.bool false, .slice none 0 0, .slice none 0 0] 107)).drew) := ((Below.refl _ _).alloc (Nat.le_refl _) _).drew
     refine hK2 _ _ (.inr hKA) ?_
     clear hK2 K2
     refine wpE_one (i := 5) rfl (by kernel_rfl) rfl (fun K2 hK2 => ?_)
     go_simp
     refine (linTexts_mem (F := fz I w.heap.size (exX W.heap.size (.slice none 0 0) (exB (w.heap.size + 1) (.slice av cs.length cv))) ((W.alloc (.cells #[.bool false, .slice none 0 0, .slice none 0 0] 107)).drew)) HGO.out hlr hll2 (HGD.out _ _ (HBW.out.trans (hKA.mono HBW.out.size))) (by rw [← HNL.out]; exact ownsRow_below HK.out.1 hKA)).mono ?_
     rintro e W1 ⟨vt, rfl, hrd, hb1⟩
     obtain ⟨aT, cT, uT, rfl, _⟩ := Go.Ab.RD.sl_inv hrd
     generalize ((txtL g.lines r.lines).map strow).length = nT at hrd
     have HRD := Lib.hid hrd
     clear hrd
     have hKW1 : Keep W W1 := hKA.trans hb1
     have hXl : W.heap.size < W1.heap.size := by have := hb1.size; simp at this; omega
     have hXW : W1.heap[W.heap.size]? = some (.cells #[.bool false, .slice none 0 0, .slice none 0 0] 107 (0, 0)) := heap_below hb1 (by show ((W.alloc _).drew).heap[W.heap.size]? = _; exact heap_alloc_new W _)
     refine hK2 _ _ (.inr hKW1) ?_
     clear hK2 K2
     refine wpE_pure (i := 6) rfl (by kernel_rfl) (fun _ _ _ _ h => h) rfl hKW1 (fun K2 hK2 => ?_); go_simp; refine hK2 _ ?_; clear hK2 K2
     refine wpE_one (i := 8) rfl (by kernel_rfl) rfl (fun K2 hK2 => ?_)
     have y0 : W1.cell? ⟨W.heap.size, 0, none⟩ = some (.bool false) := by rw [cell_of_heap hXW]; rfl
     have y1 : W1.cell? ⟨W.heap.size, 1, none⟩ = some (.slice none 0 0) := by rw [cell_of_heap hXW]; rfl
     have y2 : W1.cell? ⟨W.heap.size, 2, none⟩ = some (.slice none 0 0) := by rw [cell_of_heap hXW]; rfl
     have f0 : W1.frozen? ⟨W.heap.size, 0, none⟩ = false := frozen_of_heap hXW
     have f1 : W1.frozen? ⟨W.heap.size, 1, none⟩ = false := frozen_of_heap hXW
     have f2 : W1.frozen? ⟨W.heap.size, 2, none⟩ = false := frozen_of_heap hXW
     have HXW := Lib.hid hXW
     clear hXW
     go_simp
     refine hK2 _ _ (.inl rfl) ?_
     clear hK2 K2
     refine wpE_done (by kernel_rfl) ?_
     refine hcommon W.heap.size aT nT cT _ (Nat.le_refl _) (((hKW1.setCell (Nat.le_refl _) _).setCell (Nat.le_refl _) _).setCell (Nat.le_refl _) _) (by rw [heap_setCell_same (heap_setCell_same (heap_setCell_same HXW.out _) _) _]; rfl) ?_
     refine (HRD.out.mono (fz_big (ex' := exX W.heap.size (.slice none 0 0) (exB (w.heap.size + 1) (.slice av cs.length cv))) (by have := HBW.out.size; simp; omega) (fun b hb => ⟨?_, hb⟩) hb1)).mono (fz_keep (fun b hb' hex => ?_) fun b _ hb' he => he)
     · rcases exX_iff.1 hb with (e | e) | e
       · subst e; simp
       · cases e
       · rcases exB_iff.1 e with e | e
         · subst e; simp; omega
         · have := hrl b e; simp; omega
     · have hbX : b ≠ W.heap.size := by
         rintro rfl
         rcases hex with hex | hex
         · have := HBW.out.size; omega
         · rw [exX_iff.2 (.inl (.inl rfl))] at hex; cases hex
       rw [Below.heap_setCell _ _ _ _ hbX, Below.heap_setCell _ _ _ _ hbX, Below.heap_setCell _ _ _ _ hbX]
 case done =>
   rintro D ys W hD hS ⟨hgc, ⟨v, cs, hv, hrow, hlc, hcs⟩, hn0, hBw⟩ hK
   have hc := hv.cell
   have hcl := cell_lt hc
   obtain ⟨av, cv, hvv⟩ := ownsRow_form hrow
   subst hvv
   have HV := Lib.hid (And.intro hrow (And.intro hBw (And.intro hlc hcs)))
   have HS := Lib.hid hS
   clear hv hrow hBw hS hlc hcs hgc
   gi_wp2
   refine ⟨by simp, .inl ⟨_, _, rfl, run_takeDeferred hK, ?_⟩⟩
   have hDs : D < W.heap.size := (Array.getElem?_eq_some_iff.1 hK).1
   have hw2D : w.heap.size ≤ D := by omega
   obtain ⟨hrow, hBw, hlc, hcs⟩ := HV.out
   refine ⟨_, results_tmp rfl _ _ _, _, rfl, ?_, hBw.grown (grownBy_putObj' W D _) hBw.size (fun k e => by have := Option.some.inj e; omega)⟩
   have hrow' := ownsRow_putObj hrow (.deferred none) hK rfl
   have hfl : cs.flatMap id = cs.flatten := List.flatMap_id
   rw [← hfl] at hrow'
   have h3 : ∀ c ∈ cs, (id c).length = 3 := fun c hc => by
     obtain ⟨i, hi, rfl⟩ := List.mem_iff_getElem.1 hc
     have h9 := hcs i cs[i] (ys[i]'(by omega)) (List.getElem?_eq_getElem hi) (List.getElem?_eq_getElem (by omega))
     exact h9.1
   have hsl := ownsRow_slN (f := id) hrow' rfl h3
   rw [List.map_id] at hsl
   have hkeep : KeepI (fz I w.heap.size (exB (w.heap.size + 1) (.slice av cs.length cv)) W) W (Go.Bb.bigI I w.heap.size (W.putObj D (.deferred none))) (W.putObj D (.deferred none)) := by
     refine KeepI.trans (fz_putObj (o' := .deferred none) hK rfl) fun b o u ho hc => ⟨?_, hc⟩
     unfold fz at ho
     unfold Go.Bb.bigI
     split at ho
     · rename_i h; rw [if_pos h]; exact ho
     · rename_i h; rw [if_neg h]; exact Go.Bb.lt_cellsIn hc
   unfold dTRegs
   refine RD_of_SlRI hsl (fun b o u hb hc => ?_) ?_ (by omega) fun i c d hc hd => ?_
   · have h9 := (hrow.lt b hb).1
     unfold Go.Bb.bigI
     rw [if_neg (by omega)]
     exact Go.Bb.lt_cellsIn hc
   · rw [List.length_map, List.length_map, ← HS.out, List.length_map, hlc]
   · rw [← HS.out, List.getElem?_map, List.getElem?_map, List.getElem?_map] at hd
     cases hy : ys[i]? with
     | none => rw [hy] at hd; cases hd
     | some y =>
       rw [hy] at hd
       obtain rfl := Option.some.inj hd
       have h9 := hcs i c y hc hy
       exact ⟨h3 c (List.mem_of_getElem? hc), h9.mono hkeep⟩
theorem linText_fn {g : Gr} (hg : GrOk g) : Go.Bb.AFn Tryz.prog 23 [dGraph g] (dTRegs ((regionsL g.reach g.living).map (treg g.lines))) := by
 refine ⟨enters_fn Tryz.func23 rfl (by rfl), fun I w vs hl hv => ?_⟩
 match vs, hl with
 | [v], _ =>
   have hrd := hv 0 v _ rfl rfl
   obtain ⟨vl, ve, rfl, hat⟩ := dGraph_inv hg hrd
   exact Text_mem I vl ve g w hat hrd
end Go.Proofs.Lg
