/-
  Part I1 of this claim's proof. Joined by merge.py from the texts of wip/tpl.
-/
import Derived.Maps.GroupsBeside
import Derived.Test.YtclholnhkhjjaaaGreatGAU
set_option linter.unusedVariables false
set_option linter.unusedSimpArgs false
set_option linter.unnecessarySimpa false
namespace Go.Proofs.Lg
open Go Go.RowKit Go.Shelf Go.Maps
attribute [local go_sem] Oper.semAt_some
theorem regStep_mono {rows : List (List Bool)} {inn out : List Nat} {c : List Reg × List Nat} {m : Nat} {r : Reg} (h : r ∈ c.1) : r ∈ (regStep rows inn out c m).1 := by
 have h1 : r ∈ (if (out.filter fun i => gapN rows inn i == m) = [] then c else ((if c.2 = [] then c.1 else c.1 ++ [⟨false, c.2, []⟩]) ++ [⟨true, [], classesL rows (out.filter fun i => gapN rows inn i == m)⟩], [])).1 := by
   split
   · exact h
   · refine List.mem_append_left _ ?_
     split
     · exact h
     · exact List.mem_append_left _ h
 unfold regStep
 dsimp only
 split <;> exact h1
theorem regRun_mono {rows : List (List Bool)} {inn out : List Nat} {r : Reg} {j : Nat} : ∀ {k : Nat}, j ≤ k → r ∈ (regRun rows inn out j).1 → r ∈ (regRun rows inn out k).1
 | 0, hk, h => by obtain rfl : j = 0 := by omega
                  exact h
 | k + 1, hk, h => by
   by_cases he : j = k + 1
   · subst he; exact h
   · rw [regRun_succ]; exact regStep_mono (regRun_mono (by omega) h)
theorem regEnd_mem {c : List Reg × List Nat} {r : Reg} (h : r ∈ c.1) : r ∈ regEnd c := by
 unfold regEnd
 split
 · exact h
 · exact List.mem_append_left _ h
set_option maxRecDepth 100000 in
set_option maxHeartbeats 8000000 in
theorem regions1_toldN (nF : Nat) (hnF : 2 ≤ nF) (Bx n n₀ B tB : Nat) (vl ve vr vv : Value) (rows : List (List Bool)) (living : List Nat) (w : World) (hn₀ : n₀ ≤ w.heap.size) (hBx : Bx < n₀) (hBB : B < w.heap.size) (hxB : Bx ≠ B) (hbx : w.heap[B]? = some (.cells #[.slice none 0 0] tB (0, 0)))
   (hvl : ∃ a c m, vl = .slice a m c) (hve : ∃ a c m, ve = .slice a m c) (hr : SlOfP (fun b => b < n₀ ∧ b ≠ B) w vr (rows.map bools)) (hv : SlAtP (fun b => b < n₀ ∧ b ≠ B) w vv (ints (nats living)))
   (hq : Sq n rows) (hn : n ≤ 1000000) (hl : ∀ i ∈ living, i < n) (hll : living.length ≤ 1000000) (ht : TransR n rows)
   (x0 : w.cell? ⟨Bx, 0, none⟩ = some vl) (x1 : w.cell? ⟨Bx, 1, none⟩ = some ve) (x2 : w.cell? ⟨Bx, 2, none⟩ = some vr) (x3 : w.cell? ⟨Bx, 3, none⟩ = some vv) :
   SeqTold Fence.wide nF Tryz.prog 82 #[.pointer (some ⟨Bx, 0, none⟩)] (fun x : Value × Reg => #[x.1]) (fun x W => RegOk W x.1 x.2 ∧ x.2 ∈ regionsL rows living) (KeepsR n₀ B) (fun xs => xs.map (·.2) = regionsL rows living) (2 * living.length + 4) w := by
 intro l J W hW hJ hY h0
 have hb0 : Below n₀ w W := hW.mono hn₀
 have HR : Hid (SlOfP (fun b => b < n₀ ∧ b ≠ B) W vr (rows.map bools)) := hr.stays fun b hb _ => hb0.block b hb.1
 have HV : Hid (SlAtP (fun b => b < n₀ ∧ b ≠ B) W vv (ints (nats living))) := hv.stays fun b hb _ => hb0.block b hb.1
 have y0 : W.cell? ⟨Bx, 0, none⟩ = some vl := (hb0.cell (p := ⟨Bx, 0, none⟩) hBx).trans x0
 have y1 : W.cell? ⟨Bx, 1, none⟩ = some ve := (hb0.cell (p := ⟨Bx, 1, none⟩) hBx).trans x1
 have y2 : W.cell? ⟨Bx, 2, none⟩ = some vr := (hb0.cell (p := ⟨Bx, 2, none⟩) hBx).trans x2
 have y3 : W.cell? ⟨Bx, 3, none⟩ = some vv := (hb0.cell (p := ⟨Bx, 3, none⟩) hBx).trans x3
 have hn1 : n₀ ≤ W.heap.size := Nat.le_trans hn₀ hW.size
 have HBX : Hid (W.heap[B]? = some (.cells #[.slice none 0 0] tB (0, 0))) := (hW.block B hBB).trans hbx
 have hBW0 : B < W.heap.size := Nat.lt_of_lt_of_le hBB hW.size
 clear hbx hBB
 clear x0 x1 x2 x3 hr hv hb0 hW hn₀
 have HVL := Lib.hid hvl
 have HVE := Lib.hid hve
 obtain ⟨al, cl, ml, rfl⟩ := hvl
 obtain ⟨ae, ce, me, rfl⟩ := hve
 obtain ⟨ar, cr, mr, rfl⟩ : ∃ a c m, vr = .slice a m c := by obtain ⟨vs, ⟨a, c, h, _⟩, _⟩ := HR.out; exact ⟨a, c, _, h⟩
 obtain ⟨av, cv, mv, rfl⟩ : ∃ a c m, vv = .slice a m c := by obtain ⟨a, c, h, _⟩ := HV.out; exact ⟨a, c, _, h⟩
 have hset := settled_any (.slice al ml cl) (.slice ae me ce) (.slice ar mr cr) (.slice av mv cv) n rows living W ⟨⟨_, _, _, rfl⟩, ⟨_, _, _, rfl⟩, HR.out.slOf, HV.out.slAt⟩ hq hn hl hll ht
 have HS := Lib.hid hset
 have HY := Lib.hid hY
 have HJ := Lib.hid hJ
 have H0 := Lib.hid h0
 have hbxl : Bx < W.heap.size := by omega
 clear hset hY hJ h0
 refine callsIn_of_wp Tryz.func82 rfl trivial ?_ rfl
 simp only [Tryz.ntmps82, List.size_toArray, List.length_cons, List.length_nil, Nat.reduceAdd, Nat.reduceSub, Array.replicate_succ, Array.replicate_zero, List.push_toArray, List.append_toArray, List.nil_append, List.cons_append]
 have hmm := @run_makeMap Tryz.prog
 gi_wp2_with (refine ⟨trivial, fun _ => (by omega), ?_⟩; refine (callsIn_wide.2 HS.out).mono ?_; rintro e w1 ⟨v1, v2, rfl, ho1, ho2, hb1⟩; obtain ⟨a1, c1, rfl⟩ := ownsRow_form ho1; obtain ⟨a2, c2, rfl⟩ := ownsRow_form ho2)
 have hs1 := hb1.size
 have hinnl : (sortB rows (inL rows living living)).length ≤ living.length := by
   have : (sortB rows (inL rows living living)).length = (inL rows living living).length := by simp [sortB, List.length_mergeSort]
   rw [this]; exact List.length_filter_le _ _
 have houtl : (outL rows living living).length ≤ living.length := List.length_filter_le _ _
 have hinn : ∀ j ∈ sortB rows (inL rows living living), j < n := fun j hj => hl j ((List.mem_filter.1 (by unfold sortB at hj; simpa using hj : j ∈ inL rows living living)).1)
 have hout : ∀ j ∈ outL rows living living, j < n := fun j hj => hl j (List.mem_filter.1 hj).1
 have hspec : regionsL rows living = regEnd (regRun rows (sortB rows (inL rows living living)) (outL rows living living) ((sortB rows (inL rows living living)).length + 1)) := rfl
 have HMEM : Hid (∀ (r : Reg) (k : Nat), k ≤ (sortB rows (inL rows living living)).length + 1 → r ∈ (regRun rows (sortB rows (inL rows living living)) (outL rows living living) k).1 → r ∈ regionsL rows living) := fun r k hk hr => by rw [hspec]; exact regEnd_mem (regRun_mono hk hr)
 have HSP := Lib.hid hspec
 clear hspec hmm
 generalize sortB rows (inL rows living living) = inn at *
 generalize outL rows living living = out at *
 have hsl1 := ownsRow_slAt ho1
 have hsl2 := ownsRow_slAt ho2
 have HO := Lib.hid (And.intro ho1 (And.intro ho2 (And.intro hsl1 hsl2)))
 have HIN := Lib.hid hinn
 have HOUT := Lib.hid hout
 have hg0 := GapsAt.made w1 (gapN rows inn)
 have HG0 := Lib.hid hg0
 have HB1 := Lib.hid hb1
 clear ho1 ho2 hsl1 hsl2 hinn hout hg0 hb1 HS
 gi_loopw [19] (fun i' wr => ∃ k : Nat, k ≤ out.length ∧ i' = .int .i64 k ∧ GapsAt wr w1.heap.size k (gapN rows inn) (out.take k) ∧ Below w1.heap.size w1 wr)
   (fun i' _ => out.length - (intOf i').toNat)
 case atStart => exact ⟨0, Nat.zero_le _, rfl, HG0.out, (Below.refl _ _).alloc (Nat.le_refl _) _⟩
 case round =>
   obtain ⟨k, hk, rfl, hg, hB⟩ := hrel
   by_cases hlt : k < out.length
   · have hsz := hB.size
     have hBW : Below W.heap.size W wr := HB1.out.trans (hB.mono hs1)
     have z0 := below_cell hBW y0
     have z1 := below_cell hBW y1
     have z2 := below_cell hBW y2
     have z3 := below_cell hBW y3
     have hbx2 := cell_lt z0
     obtain ⟨b2, off, rfl, hc0⟩ := HO.out.2.2.2.cells_of hlt
     have hcell := below_cell hB hc0
     clear hc0
     have hin := HOUT.out _ (List.getElem_mem hlt)
     have htk : out.take (k + 1) = out.take k ++ [out[k]] := List.take_succ_eq_append_getElem hlt
     generalize out[k] = i at hcell hin htk
     have hbl := cell_lt hcell
     have HGC := Lib.hid (gap_any (.slice al ml cl) (.slice ae me ce) (.slice ar mr cr) (.slice av mv cv) (.slice a1 inn.length c1) n i inn rows wr (HR.out.slOf.below hBW) hq hin HIN.out hn (by omega) (HO.out.2.2.1.below hB) HVL.out HVE.out ⟨_, _, _, rfl⟩)
     have hgn : gapN rows inn i ≤ 1000000 := by have := List.length_filter_le (fun j => bef rows j i) inn; unfold gapN; omega
     obtain ⟨D, hD, h2⟩ := hg
     have hkey := keyOf_int_mk under_int (wf_nat hgn)
     have hiw := wf_nat (i := i) (by omega)
     obtain ⟨i0, hi, hz0, hz1, hz2⟩ := info_parts info_int3
     have HD := Lib.hid hD
     have H2 := Lib.hid h2
     have HTK := Lib.hid htk
     have HBB := Lib.hid hB
     have HKEY := Lib.hid hkey
     have HIW := Lib.hid hiw
     have hmap : IsMap D := by obtain ⟨es, clock, _, _, _, e, _⟩ := hD; exact ⟨_, e⟩
     have hgm : gapN rows inn i = gapN rows inn i := rfl
     clear hD h2 htk hB hkey hiw hgm
     gi_wp2_with (first
       | (refine ⟨trivial, fun _ => (by omega), ?_⟩; refine (callsIn_wide.2 HGC.out).mono ?_; rintro e w2 ⟨rfl, hb2⟩; have hD2 := HD.out.kept (grownBy_of_below hb2 none) (by simp) (fun es clock _ x _ => by cases x.val.ownBlock <;> simp))
       | (gi_at_lookup; refine wpListIn_lookup_groups _ rfl _ _ _ rfl 3 29 3 .i64 (int_keyed under_int) Tryz.underlying125 (by simp [go_sem]) (w1.heap.size + 1) w1.heap.size k D rfl hD2 (by unfold maxLen; omega) _ _ rfl HKEY.out ?_; intro v zs hat hoi hzl hback)
       | (gi_at_builtin; refine wpListIn_append_own_at _ rfl _ _ 29 rfl (w1.heap.size + 1) 3 i0 (.int .i64 0) 1 8 Tryz.underlying29 hi hz0 hz1 hz2 rfl (by decide) _ _ _ rfl (hoi.1.alloc _) ⟨w2.heap.size, 0, none⟩ 1 1 [.int .i64 i] rfl rfl (cell_one_new _ _ _) (by simp [Value.oneCell']) (by unfold maxLen; omega) (by omega) (by have := hb2.size; simp; omega) ?_; intro v' w4 hown' hgrow _ hloc)
       | (gi_at_mapUpdate; refine wpListIn_mapUpdate_back _ rfl _ _ _ _ rfl hback rfl rfl rfl (grownBy_trans' (World.grownBy_alloc _ _ _) hgrow) (hoi.appended hown' HIW.out) (by simp; omega) (hloc.imp id (fun h => ⟨_, h, by simp⟩)) ?_; intro w5 hown5 hgrow5))
     go_roundw
     case rel =>
       have hzs := grp_zs hoi (hat.symm.trans (H2.out _))
       subst hzs
       refine ⟨k + 1, by omega, by simp, ⟨_, hown5, fun m => ?_⟩, ?_⟩
       · rw [HTK.out]
         exact gaps_put hmap H2.out (hoi.appended hown' HIW.out) m
       · exact Below.groups (HBB.out.trans (hb2.mono hsz)) hoi (grownBy_trans' (World.grownBy_alloc _ _ _) hgrow) hgrow5 (Nat.le_trans hsz hb2.size) (Nat.le_succ _) (Nat.le_refl _)
     case measure => simp [intOf]; omega
   · obtain rfl : k = out.length := by omega
     rw [List.take_length] at hg
     have hsz := hB.size
     have hBW : Below W.heap.size W wr := HB1.out.trans (hB.mono hs1)
     have HOWN : Hid (∀ k, ownB B wr k → k = B) := fun k hk => ownB_nil ((hBW.block B hBW0).trans HBX.out) hk
     have hJ0 := HJ.out [] W wr H0.out hBW
     have HGA := Lib.hid hg
     have HJ0 := Lib.hid hJ0
     have HBW := Lib.hid hBW
     have HBB := Lib.hid hB
     clear hg hJ0 hBW hB
     obtain ⟨wo, rfl⟩ : ∃ wo, wo = wr := ⟨_, rfl⟩
     have hWo : W.heap.size ≤ wo.heap.size := HBW.out.size
     gi_wp2
     gi_loopw [9, 10] (fun run i' ws => ∃ (m : Nat) (xs : List (Value × Reg)) (Wy : World), i' = .int .i64 m ∧ m ≤ inn.length + 1 ∧ xs.map (·.2) = (regRun rows inn out m).1 ∧ J xs Wy ∧ Below Wy.heap.size Wy ws ∧
         ws.ownsRow Wy.heap.size 3 1 run (regRun rows inn out m).2.length (ints (nats (regRun rows inn out m).2)) ∧ KeepsR n₀ B wo ws ∧ wo.heap.size ≤ Wy.heap.size)
       (fun _ i' _ => inn.length + 1 - (intOf i').toNat)
     case atStart => exact ⟨0, [], wo, rfl, Nat.zero_le _, rfl, HJ0.out, Below.refl _ _, World.ownsRow_nil _ _ _ _, KeepsR.refl _ _ _, Nat.le_refl _⟩
     case round =>
       obtain ⟨m, xs, Wy, rfl, hm, hxs, hJy, hBy, hrun, hkk, hbn⟩ := hrel
       have hJs := HJ.out xs Wy wr hJy hBy
       have hlens := regRun_len rows inn out m
       have hxl : xs.length ≤ 2 * m := by have := congrArg List.length hxs; rw [List.length_map] at this; omega
       by_cases hlt : m ≤ inn.length
       · obtain ⟨vg, hlk, hog⟩ := HGA.out.look hkk (fun k hk => by have := HOWN.out k hk; omega) Tryz.underlying125 m (by omega)
         have hla : ∀ W', KeepsR n₀ B wo W' → ∃ v, (Instr.lookup 125 (.map (some w1.heap.size)) (.int .i64 m) false).run Tryz.prog W' = .ok v W' ∧ W'.ownsRow (w1.heap.size + 1) 3 1 v (out.filter fun i => gapN rows inn i == m).length (ints (nats (out.filter fun i => gapN rows inn i == m))) := fun W' hk => HGA.out.look hk (fun k hk => by have := HOWN.out k hk; omega) Tryz.underlying125 m (by omega)
         have hst := regRun_succ rows inn out m
         have hgl : (out.filter fun i => gapN rows inn i == m).length ≤ out.length := List.length_filter_le _ _
         generalize regRun rows inn out m = c at hrun hlens hxs hst
         obtain ⟨regs, run⟩ := c
         dsimp only at hrun hlens hxs
         unfold regStep at hst
         dsimp only at hst
         have hgm : ∀ j ∈ (out.filter fun i => gapN rows inn i == m), j < n := fun j hj => HOUT.out j (List.mem_filter.1 hj).1
         generalize (out.filter fun i => gapN rows inn i == m) = g at hlk hog hgl hst hgm hla
         have HLA := Lib.hid hla
         clear hla
         obtain ⟨ag, cg, hvg⟩ := ownsRow_form hog
         subst hvg
         obtain ⟨ar2, cr2, hvr⟩ := ownsRow_form hrun
         subst hvr
         have HST := Lib.hid hst
         have HXS := Lib.hid hxs
         have HJS := Lib.hid (And.intro hJy (And.intro hBy (And.intro hkk hbn)))
         have HRU := Lib.hid hrun
         have HOG := Lib.hid hog
         clear hst hxs hJy hBy hkk hbn hrun hog hJs
         by_cases hge : g = []
         · subst hge
           by_cases hlt2 : m < inn.length
           · have hir := ownsRow_keepsR (ownsRow_below HO.out.1 HBB.out) HJS.out.2.2.1 (fun k hk => by have := HOWN.out k hk; omega)
             obtain ⟨b3, off3, rfl, hcell⟩ := (ownsRow_slAt hir).cells_of hlt2
             have HS2 : Hid (regRun rows inn out (m + 1) = (regs, run ++ [inn[m]])) := by show _ = _; rw [HST.out, List.getElem?_eq_getElem hlt2]; simp
             generalize inn[m] = i at hcell HS2
             have hbl3 := cell_lt hcell
             obtain ⟨i0, hi, hz0, hz1, hz2⟩ := info_parts info_int3
             have hsy := HJS.out.2.1.size
             clear hir
             gi_wp2_with (gi_at_builtin; refine wpListIn_append_own_at _ rfl _ _ 29 rfl Wy.heap.size 3 i0 (.int .i64 0) 1 8 Tryz.underlying29 hi hz0 hz1 hz2 rfl (by decide) _ _ _ rfl (HRU.out.alloc _) ⟨wr.heap.size, 0, none⟩ 1 1 [.int .i64 i] rfl rfl (cell_one_new _ _ _) (by simp [Value.oneCell']) (by unfold maxLen; omega) (by omega) (by simp; omega) ?_; intro v' w4 hown' hgrow _ hloc)
             have hgrow2 : (wr.alloc (.cells #[.int .i64 i] 3)).grownBy w4 (Value.slice ar2 run.length cr2).ownBlock := hgrow
             have hA : wr.grownBy w4 (Value.slice ar2 run.length cr2).ownBlock := grownBy_trans' (World.grownBy_alloc _ _ _) hgrow2
             have hwy := HJS.out.2.2.2
             have hkw := HJS.out.2.2.1
             go_roundw
             case rel =>
               refine ⟨m + 1, xs, Wy, by simp, by omega, by rw [HS2.out]; exact HXS.out, HJS.out.1, HJS.out.2.1.grown hA hsy (fun j hj => (HRU.out.lt j hj).1), by rw [HS2.out]; simpa [ints, nats] using hown', ?_, hwy⟩
               exact hkw.grown hA (fun r hr => by have := (HRU.out.lt r hr).1; omega) (by omega) (by omega)
             case measure => simp [intOf]; omega
           · obtain rfl : m = inn.length := by omega
             have HS2 : Hid (regRun rows inn out (inn.length + 1) = (regs, run)) := by show _ = _; rw [HST.out]; simp
             gi_wp2
             go_roundw
             case rel => exact ⟨inn.length + 1, xs, Wy, by simp, Nat.le_refl _, by rw [HS2.out]; exact HXS.out, HJS.out.1, HJS.out.2.1, by rw [HS2.out]; exact HRU.out, HJS.out.2.2.1, HJS.out.2.2.2⟩
             case measure => simp [intOf]
         · have hgp : 0 < g.length := List.length_pos_iff.2 hge
           have hgn : ∀ j ∈ g, j < n := hgm
           have z0 : wr.cell? ⟨Bx, 0, none⟩ = some (.slice al ml cl) := HJS.out.2.2.1.cell (p := ⟨Bx, 0, none⟩) hBx (fun hc => hxB (HOWN.out _ hc)) (below_cell HBW.out y0)
           have z1 : wr.cell? ⟨Bx, 1, none⟩ = some (.slice ae me ce) := HJS.out.2.2.1.cell (p := ⟨Bx, 1, none⟩) hBx (fun hc => hxB (HOWN.out _ hc)) (below_cell HBW.out y1)
           have z2 : wr.cell? ⟨Bx, 2, none⟩ = some (.slice ar mr cr) := HJS.out.2.2.1.cell (p := ⟨Bx, 2, none⟩) hBx (fun hc => hxB (HOWN.out _ hc)) (below_cell HBW.out y2)
           have z3 : wr.cell? ⟨Bx, 3, none⟩ = some (.slice av mv cv) := HJS.out.2.2.1.cell (p := ⟨Bx, 3, none⟩) hBx (fun hc => hxB (HOWN.out _ hc)) (below_cell HBW.out y3)
           have hBnw : ∀ b, b < n₀ ∧ b ≠ B → wr.heap[b]? = W.heap[b]? := fun b hb => (HJS.out.2.2.1.old b hb.1 (fun hc => hb.2 (HOWN.out _ hc))).trans (HBW.out.block b (by omega))
           have HCL := Lib.hid (classes_any (.slice al ml cl) (.slice ae me ce) (.slice ar mr cr) (.slice av mv cv) (.slice ag g.length cg) n rows g wr (HR.out.stays (fun b hb _ => hBnw b hb)).slOf hq hgn hn (by omega) (ownsRow_slAt HOG.out) HVL.out HVE.out ⟨_, _, _, rfl⟩)
           by_cases hre : run = []
           · subst hre
             have hwy := HJS.out.2.2.2
             have hbx3 := cell_lt z0
             gi_wp2
             refine ⟨fun _ h => (by cases h), ?_⟩
             gi_wp2_with (refine ⟨trivial, fun _ => (by omega), ?_⟩; refine (callsIn_wide.2 HCL.out).mono ?_; rintro e w5 ⟨uv, us, rfl, hou, hos, hb5⟩; obtain ⟨a5, c5, rfl⟩ := ownsRow_form hou; obtain ⟨fn, tmps, assign, body, hy, hRn⟩ := HY.out xs (.agg #[.bool true, .slice none 0 0, .slice a5 us.length c5], ⟨true, [], classesL rows g⟩) w5 (HJ.out xs Wy w5 HJS.out.1 (HJS.out.2.1.trans (hb5.mono HJS.out.2.1.size))) (by omega) ⟨⟨RegAt.contested hou hos, small_contested rows (by omega)⟩, HMEM.out _ (m + 1) (by omega) (by rw [HST.out]; cases inn[m]? <;> simp [hge])⟩; dsimp only at hy)
             refine ⟨fun _ => by omega, hRn.mono ?_⟩
             rintro e w6 ⟨rfl, hJ6, hk6⟩
             have hkw : KeepsR n₀ B wo w6 := (HJS.out.2.2.1.trans (KeepsR.of_below (by have := HJS.out.2.2.1.size; omega) (by have := HJS.out.2.2.1.size; omega) hb5)).trans hk6
             have hws : wo.heap.size ≤ w6.heap.size := hkw.size
             have hXS6 : (xs ++ [((Value.agg #[.bool true, .slice none 0 0, .slice a5 us.length c5], ⟨true, [], classesL rows g⟩) : Value × Reg)]).map (·.2) = regs ++ [⟨true, [], classesL rows g⟩] := by rw [List.map_append, HXS.out]; rfl
             have H6 := Lib.hid (And.intro hJ6 (And.intro hkw (And.intro hws hXS6)))
             clear hkw hws hXS6 hJ6 hk6 hou hos hb5 z0 z1 z2 z3 hlk hRn hy
             by_cases hlt2 : m < inn.length
             · have hir := ownsRow_keepsR (ownsRow_below HO.out.1 HBB.out) H6.out.2.1 (fun k hk => by have := HOWN.out k hk; omega)
               obtain ⟨b3, off3, rfl, hcell⟩ := (ownsRow_slAt hir).cells_of hlt2
               have HS2 : Hid (regRun rows inn out (m + 1) = (regs ++ [⟨true, [], classesL rows g⟩], [inn[m]])) := by show _ = _; rw [HST.out, List.getElem?_eq_getElem hlt2]; simp [hge]
               generalize inn[m] = i at hcell HS2
               have hbl3 := cell_lt hcell
               obtain ⟨i0, hi, hz0, hz1, hz2⟩ := info_parts info_int3
               have hnil := World.ownsRow_nil (w6.alloc (.cells #[.int .i64 i] 3)) w6.heap.size 3 1
               clear hir
               gi_wp2_with (gi_at_builtin; refine wpListIn_append_own_at _ rfl _ _ 29 rfl w6.heap.size 3 i0 (.int .i64 0) 1 8 Tryz.underlying29 hi hz0 hz1 hz2 rfl (by decide) _ _ _ rfl hnil ⟨w6.heap.size, 0, none⟩ 1 1 [.int .i64 i] rfl rfl (cell_one_new _ _ _) (by simp [Value.oneCell']) (by decide) (by decide) (by simp) ?_; intro v' w7 hown' hgrow _ hloc)
               have hgrow2 : (w6.alloc (.cells #[.int .i64 i] 3)).grownBy w7 none := hgrow
               have hA : Below w6.heap.size w6 w7 := ((Below.refl _ _).alloc (Nat.le_refl _) _).grown hgrow2 (by simp) (fun j hj => by cases hj)
               go_roundw
               case rel =>
                 exact ⟨m + 1, _, w6, by simp, by omega, by rw [HS2.out]; exact H6.out.2.2.2, H6.out.1, hA, by rw [HS2.out]; simpa [ints, nats] using hown', H6.out.2.1.trans (KeepsR.of_below (by have := H6.out.2.2.1; omega) (by have := H6.out.2.2.1; omega) hA), H6.out.2.2.1⟩
               case measure => simp [intOf]; omega
             · obtain rfl : m = inn.length := by omega
               have HS2 : Hid (regRun rows inn out (inn.length + 1) = (regs ++ [⟨true, [], classesL rows g⟩], [])) := by show _ = _; rw [HST.out]; simp [hge]
               gi_wp2
               go_roundw
               case rel => exact ⟨inn.length + 1, _, w6, by simp, Nat.le_refl _, by rw [HS2.out]; exact H6.out.2.2.2, H6.out.1, Below.refl _ _, by rw [HS2.out]; exact World.ownsRow_nil _ _ _ _, H6.out.2.1, H6.out.2.2.1⟩
               case measure => simp [intOf]
           · have hrl : 0 < run.length := List.length_pos_iff.2 hre
             have hwy := HJS.out.2.2.2
             have hbx3 := cell_lt z0
             obtain ⟨fn1, tmps1, assign1, body1, hy1, hRn1⟩ := HY.out xs (.agg #[.bool false, .slice ar2 run.length cr2, .slice none 0 0], ⟨false, run, []⟩) wr (HJ.out xs Wy wr HJS.out.1 HJS.out.2.1) (by omega) ⟨⟨RegAt.settled HRU.out, small_settled (by omega)⟩, HMEM.out _ (m + 1) (by omega) (by rw [HST.out]; cases inn[m]? <;> simp [hge, hre])⟩
             dsimp only at hy1
             gi_wp2
             refine ⟨fun _ => by omega, hRn1.mono ?_⟩
             rintro e w8 ⟨rfl, hJ8, hk8⟩
             have hkw8 : KeepsR n₀ B wo w8 := HJS.out.2.2.1.trans hk8
             have hBn8 : ∀ b, b < n₀ ∧ b ≠ B → w8.heap[b]? = W.heap[b]? := fun b hb => (hkw8.old b hb.1 (fun hc => hb.2 (HOWN.out _ hc))).trans (HBW.out.block b (by omega))
             obtain ⟨vg8, hlk8, hog8⟩ := HLA.out w8 hkw8
             obtain ⟨ag8, cg8, hvg8⟩ := ownsRow_form hog8
             subst hvg8
             have t0 : w8.cell? ⟨Bx, 0, none⟩ = some (.slice al ml cl) := hkw8.cell (p := ⟨Bx, 0, none⟩) hBx (fun hc => hxB (HOWN.out _ hc)) (below_cell HBW.out y0)
             have t1 : w8.cell? ⟨Bx, 1, none⟩ = some (.slice ae me ce) := hkw8.cell (p := ⟨Bx, 1, none⟩) hBx (fun hc => hxB (HOWN.out _ hc)) (below_cell HBW.out y1)
             have t2 : w8.cell? ⟨Bx, 2, none⟩ = some (.slice ar mr cr) := hkw8.cell (p := ⟨Bx, 2, none⟩) hBx (fun hc => hxB (HOWN.out _ hc)) (below_cell HBW.out y2)
             have t3 : w8.cell? ⟨Bx, 3, none⟩ = some (.slice av mv cv) := hkw8.cell (p := ⟨Bx, 3, none⟩) hBx (fun hc => hxB (HOWN.out _ hc)) (below_cell HBW.out y3)
             have ht0 := cell_lt t0
             have HCL8 := Lib.hid (classes_any (.slice al ml cl) (.slice ae me ce) (.slice ar mr cr) (.slice av mv cv) (.slice ag8 g.length cg8) n rows g w8 (HR.out.stays (fun b hb _ => hBn8 b hb)).slOf hq hgn hn (by omega) (ownsRow_slAt hog8) HVL.out HVE.out ⟨_, _, _, rfl⟩)
             have H8 := Lib.hid (And.intro hJ8 (And.intro hkw8 (And.intro hk8.size hog8)))
             clear hJ8 hkw8 hBn8 hog8 hlk hRn1 hy1 z0 z1 z2 z3 hk8
             gi_wp2_with (refine ⟨trivial, fun _ => (by omega), ?_⟩; refine (callsIn_wide.2 HCL8.out).mono ?_; rintro e w5 ⟨uv, us, rfl, hou, hos, hb5⟩; obtain ⟨a5, c5, rfl⟩ := ownsRow_form hou; obtain ⟨fn, tmps, assign, body, hy, hRn⟩ := HY.out _ (.agg #[.bool true, .slice none 0 0, .slice a5 us.length c5], ⟨true, [], classesL rows g⟩) w5 (HJ.out _ w8 w5 H8.out.1 hb5) (by simp; omega) ⟨⟨RegAt.contested hou hos, small_contested rows (by omega)⟩, HMEM.out _ (m + 1) (by omega) (by rw [HST.out]; cases inn[m]? <;> simp [hge])⟩; dsimp only at hy)
             refine ⟨fun _ => by omega, hRn.mono ?_⟩
             rintro e w6 ⟨rfl, hJ6, hk6⟩
             have hkw : KeepsR n₀ B wo w6 := (H8.out.2.1.trans (KeepsR.of_below (by have := H8.out.2.1.size; omega) (by have := H8.out.2.1.size; omega) hb5)).trans hk6
             have hws : wo.heap.size ≤ w6.heap.size := hkw.size
             have hXS6 : ((xs ++ [((Value.agg #[.bool false, .slice ar2 run.length cr2, .slice none 0 0], ⟨false, run, []⟩) : Value × Reg)]) ++ [((Value.agg #[.bool true, .slice none 0 0, .slice a5 us.length c5], ⟨true, [], classesL rows g⟩) : Value × Reg)]).map (·.2) = regs ++ [⟨false, run, []⟩] ++ [⟨true, [], classesL rows g⟩] := by rw [List.map_append, List.map_append, HXS.out]; rfl
             have H6 := Lib.hid (And.intro hJ6 (And.intro hkw (And.intro hws hXS6)))
             clear hkw hws hXS6 hJ6 hk6 hou hos hb5 t0 t1 t2 t3 hlk8 hRn hy
             by_cases hlt2 : m < inn.length
             · have hir := ownsRow_keepsR (ownsRow_below HO.out.1 HBB.out) H6.out.2.1 (fun k hk => by have := HOWN.out k hk; omega)
               obtain ⟨b3, off3, rfl, hcell⟩ := (ownsRow_slAt hir).cells_of hlt2
               have HS2 : Hid (regRun rows inn out (m + 1) = (regs ++ [⟨false, run, []⟩] ++ [⟨true, [], classesL rows g⟩], [inn[m]])) := by show _ = _; rw [HST.out, List.getElem?_eq_getElem hlt2]; simp [hge, hre]
               generalize inn[m] = i at hcell HS2
               have hbl3 := cell_lt hcell
               obtain ⟨i0, hi, hz0, hz1, hz2⟩ := info_parts info_int3
               have hnil := World.ownsRow_nil (w6.alloc (.cells #[.int .i64 i] 3)) w6.heap.size 3 1
               clear hir
               gi_wp2_with (gi_at_builtin; refine wpListIn_append_own_at _ rfl _ _ 29 rfl w6.heap.size 3 i0 (.int .i64 0) 1 8 Tryz.underlying29 hi hz0 hz1 hz2 rfl (by decide) _ _ _ rfl hnil ⟨w6.heap.size, 0, none⟩ 1 1 [.int .i64 i] rfl rfl (cell_one_new _ _ _) (by simp [Value.oneCell']) (by decide) (by decide) (by simp) ?_; intro v' w7 hown' hgrow _ hloc)
               have hgrow2 : (w6.alloc (.cells #[.int .i64 i] 3)).grownBy w7 none := hgrow
               have hA : Below w6.heap.size w6 w7 := ((Below.refl _ _).alloc (Nat.le_refl _) _).grown hgrow2 (by simp) (fun j hj => by cases hj)
               go_roundw
               case rel =>
                 exact ⟨m + 1, _, w6, by simp, by omega, by rw [HS2.out]; exact H6.out.2.2.2, H6.out.1, hA, by rw [HS2.out]; simpa [ints, nats] using hown', H6.out.2.1.trans (KeepsR.of_below (by have := H6.out.2.2.1; omega) (by have := H6.out.2.2.1; omega) hA), H6.out.2.2.1⟩
               case measure => simp [intOf]; omega
             · obtain rfl : m = inn.length := by omega
               have HS2 : Hid (regRun rows inn out (inn.length + 1) = (regs ++ [⟨false, run, []⟩] ++ [⟨true, [], classesL rows g⟩], [])) := by show _ = _; rw [HST.out]; simp [hge, hre]
               gi_wp2
               go_roundw
               case rel => exact ⟨inn.length + 1, _, w6, by simp, Nat.le_refl _, by rw [HS2.out]; exact H6.out.2.2.2, H6.out.1, Below.refl _ _, by rw [HS2.out]; exact World.ownsRow_nil _ _ _ _, H6.out.2.1, H6.out.2.2.1⟩
               case measure => simp [intOf]
       · obtain rfl : m = inn.length + 1 := by omega
         have HX := Lib.hid hxs
         have HJS := Lib.hid hJs
         generalize regRun rows inn out (inn.length + 1) = c at hrun hlens HX HSP
         obtain ⟨regs, run⟩ := c
         dsimp only at hrun hlens HX
         obtain ⟨ar2, cr2, hvr⟩ := ownsRow_form hrun
         subst hvr
         clear hxs hJs
         by_cases hre : run = []
         · subst hre
           have HE : Hid (regionsL rows living = regs) := by show _ = _; rw [HSP.out]; simp [regEnd]
           clear hrun
           gi_wp2
           go_end0
           exact ⟨⟨_, rfl⟩, xs, by rw [HE.out]; exact HX.out, HJS.out⟩
         · have hrl : 0 < run.length := List.length_pos_iff.2 hre
           have HE : Hid (regionsL rows living = regs ++ [⟨false, run, []⟩]) := by show _ = _; rw [HSP.out]; simp [regEnd, hre]
           obtain ⟨fn, tmps, assign, body, hy, hRn⟩ := HY.out xs (.agg #[.bool false, .slice ar2 run.length cr2, .slice none 0 0], ⟨false, run, []⟩) wr HJS.out (by omega) ⟨⟨RegAt.settled hrun, small_settled (by omega)⟩, by rw [HE.out]; simp⟩
           dsimp only at hy
           clear hrun
           gi_wp2
           refine ⟨fun _ => by omega, hRn.mono ?_⟩
           rintro e W3 ⟨rfl, hJ3, hk3⟩
           gi_wp2
           go_end0
           exact ⟨⟨_, rfl⟩, _, by rw [HE.out, List.map_append, HX.out]; rfl, hJ3⟩
theorem SeqTold.weaken {α : Type} {F : Fence} {n : Nat} {P : Program} {g : Nat} {lb : Array Value} {encs : α → Array Value} {T T' : α → World → Prop} {Kp : World → World → Prop} {S : List α → Prop} {N : Nat} {w : World} (h : SeqTold F n P g lb encs T Kp S N w) (ht : ∀ x W, T x W → T' x W) : SeqTold F n P g lb encs T' Kp S N w :=
 fun l J W hW hJ hY h0 => h l J W hW hJ (fun pre x W1 hj hl hT => hY pre x W1 hj hl (ht x W1 hT)) h0
theorem regions1_told (nF : Nat) (hnF : 2 ≤ nF) (Bx n n₀ B tB : Nat) (vl ve vr vv : Value) (rows : List (List Bool)) (living : List Nat) (w : World) (hn₀ : n₀ ≤ w.heap.size) (hBx : Bx < n₀) (hBB : B < w.heap.size) (hxB : Bx ≠ B) (hbx : w.heap[B]? = some (.cells #[.slice none 0 0] tB (0, 0)))
   (hvl : ∃ a c m, vl = .slice a m c) (hve : ∃ a c m, ve = .slice a m c) (hr : SlOfP (fun b => b < n₀ ∧ b ≠ B) w vr (rows.map bools)) (hv : SlAtP (fun b => b < n₀ ∧ b ≠ B) w vv (ints (nats living)))
   (hq : Sq n rows) (hn : n ≤ 1000000) (hl : ∀ i ∈ living, i < n) (hll : living.length ≤ 1000000) (ht : TransR n rows)
   (x0 : w.cell? ⟨Bx, 0, none⟩ = some vl) (x1 : w.cell? ⟨Bx, 1, none⟩ = some ve) (x2 : w.cell? ⟨Bx, 2, none⟩ = some vr) (x3 : w.cell? ⟨Bx, 3, none⟩ = some vv) :
   SeqTold Fence.wide nF Tryz.prog 82 #[.pointer (some ⟨Bx, 0, none⟩)] (fun x : Value × Reg => #[x.1]) (fun x W => RegOk W x.1 x.2) (KeepsR n₀ B) (fun xs => xs.map (·.2) = regionsL rows living) (2 * living.length + 4) w :=
 (regions1_toldN nF hnF Bx n n₀ B tB vl ve vr vv rows living w hn₀ hBx hBB hxB hbx hvl hve hr hv hq hn hl hll ht x0 x1 x2 x3).weaken fun _ _ h => h.1
end Go.Proofs.Lg
