/-
  Part GAY of this claim's proof. Joined by merge.py from the texts of wip/tpl.
-/
import Derived.Test.YtclholnhkhjjaaaGreatGAX
import Derived.Test.YtclholnhkhjjaaaGreatGAV
import Derived.Test.YtclholnhkhjjaaaGreatGAC
set_option linter.unusedVariables false
set_option linter.unusedSimpArgs false
set_option linter.unnecessarySimpa false
namespace Go.Proofs.Lg
open Go Go.RowKit Go.Shelf Go.Maps
attribute [local go_sem] Oper.semAt_some
theorem SlAt.notBox {w : World} {v : Value} {xs : List Value} {B : Nat} {t : TypeId} {f : Nat × Nat} (h : SlAt w v xs) (hx : ∀ u ∈ xs, u ≠ .slice none 0 0) (hB : w.heap[B]? = some (.cells #[.slice none 0 0] t f)) : SlAtP (fun b => b < w.heap.size ∧ b ≠ B) w v xs := by
 obtain ⟨a, c, hv, h1, h2, h3⟩ := h
 refine ⟨a, c, hv, h1, h2, fun hne => ?_⟩
 obtain ⟨b, off, ha, hc⟩ := h3 hne
 obtain ⟨u, us, rfl⟩ : ∃ u us, xs = u :: us := by cases xs with | nil => exact absurd rfl hne | cons u us => exact ⟨u, us, rfl⟩
 have h0 := hc 0 u rfl
 refine ⟨b, off, ha, ⟨cell_lt h0, fun e => ?_⟩, hc⟩
 subst e
 rw [cell_of_heap hB] at h0
 have : off = 0 := by
   have := (Array.getElem?_eq_some_iff.1 h0).1
   simp at this; omega
 subst this
 simp at h0
 exact hx u List.mem_cons_self h0.symm
theorem SlOf.notBox {w : World} {v : Value} {n B : Nat} {t : TypeId} {f : Nat × Nat} {rows : List (List Bool)} (h : SlOf w v (rows.map bools)) (hq : Sq n rows) (hB : w.heap[B]? = some (.cells #[.slice none 0 0] t f)) : SlOfP (fun b => b < w.heap.size ∧ b ≠ B) w v (rows.map bools) := by
 obtain ⟨vs, h1, h2, h3⟩ := h
 refine ⟨vs, h1.notBox (fun u hu e => ?_) hB, h2, fun i u r hu hr => (h3 i u r hu hr).notBox (fun b hb e => ?_) hB⟩
 · obtain ⟨i, hi, rfl⟩ := List.mem_iff_getElem.1 hu
   have hil : i < rows.length := by rw [List.length_map] at h2; omega
   have := h3 i vs[i] (bools rows[i]) (List.getElem?_eq_getElem hi) (by rw [List.getElem?_map, List.getElem?_eq_getElem hil]; rfl)
   obtain ⟨a, c, hv, _, _, h6⟩ := this
   have hrl : rows[i].length = n := hq.2 _ (List.getElem_mem hil)
   rw [e] at hv
   injection hv with e1 e2 e3
   have hnn : n = rows.length := hq.1.symm
   have h0 : (bools rows[i]).length = 0 := e2.symm
   simp [bools] at h0
   have : rows[i].length = 0 := by rw [h0]; rfl
   omega
 · rw [List.getElem?_map] at hr
   obtain ⟨r', _, rfl⟩ := Option.map_eq_some_iff.1 hr
   subst e
   obtain ⟨b', _, hb'⟩ := List.mem_map.1 hb
   cases hb'
def SeqAt (w : World) (n₀ B : Nat) (xs : List (Value × Reg)) (W : World) : Prop :=
 (∃ v, Boxed W B 29 v ∧ W.ownsRow n₀ 3 1 v (xs.flatMap fun x => x.2.all).length (ints (nats (xs.flatMap fun x => x.2.all)))) ∧ n₀ ≤ W.heap.size ∧ (xs.flatMap fun x => x.2.all).length ≤ xs.length * 2000000 ∧ Below w.heap.size w W
theorem seqAt_below {w : World} {n₀ B : Nat} {xs : List (Value × Reg)} {A C : World} (h : SeqAt w n₀ B xs A) (hb : Below A.heap.size A C) : SeqAt w n₀ B xs C := by
 obtain ⟨⟨v, hv, hrow⟩, hn, hl, h0⟩ := h
 exact ⟨⟨v, (hb.block _ hv.lt).trans hv, ownsRow_below hrow hb⟩, Nat.le_trans hn hb.size, hl, h0.trans (hb.mono h0.size)⟩
theorem steady_seqAt {w : World} {n₀ B B' : Nat} (hB : B < B') (hw : w.heap.size ≤ B') (xs : List (Value × Reg)) : Steady B' (SeqAt w n₀ B xs) := fun W l o o' hl h h1 h2 hk => by
 obtain ⟨⟨v, hv, hrow⟩, hn, hlen, h0⟩ := hk
 have hlt := (Array.getElem?_eq_some_iff.1 h).1
 have g := grownBy_putObj' W l o'
 exact ⟨⟨v, hv.kept g (fun e => by have := Option.some.inj e; omega), ownsRow_putObj hrow o' h h1⟩, Nat.le_trans hn g.size, hlen, h0.grown g h0.size (fun k e => by have := Option.some.inj e; omega)⟩
set_option maxRecDepth 100000 in
set_option maxHeartbeats 4000000 in
theorem Sequence_own (vl ve : Value) (g : Gr) (w : World) (hg : GrAt w vl ve g) :
   Calls Tryz.prog 15 #[.agg #[vl, ve]] w fun e w' => ∃ v, e = .returned v ∧ SlAtP (fun b => w.heap.size ≤ b) w' v (ints (nats (seqL g.reach g.living))) ∧ Below w.heap.size w w' := by
 obtain ⟨al, cl, ml, rfl⟩ : ∃ a c m, vl = .slice a m c := by obtain ⟨a, c, h, _⟩ := hg.lines; exact ⟨a, c, _, h⟩
 obtain ⟨ae, ce, me, rfl⟩ : ∃ a c m, ve = .slice a m c := by obtain ⟨a, c, h, _⟩ := hg.edges; exact ⟨a, c, _, h⟩
 have hB0 : Hid (Below w.heap.size w ((w.alloc (.cells #[.slice al ml cl, .slice ae me ce] 25)).alloc (.cells #[.slice none 0 0] 29))) := ((Below.refl _ _).alloc (Nat.le_refl _) _).alloc (by simp) _
 have HB := Lib.hid (begin_any _ _ g _ (hg.below (Below.mono hB0.out (Nat.le_refl _))))
 have hfew := hg.few
 clear hg
 refine (callsIn_wide (n := 6)).1 (callsIn_of_wp_marks Tryz.func15 rfl trivial ?_ rfl)
 simp only [Tryz.ntmps15, List.size_toArray, List.length_cons, List.length_nil, Nat.reduceAdd, Nat.reduceSub, Array.replicate_succ, Array.replicate_zero, List.push_toArray, List.append_toArray, List.nil_append, List.cons_append]
 gi_wp2_with (fail)
 refine ⟨trivial, ?_⟩
 refine (callsIn_wide.2 HB.out).mono ?_
 rintro e w1 ⟨vl', ve', vr, vv, rfl, ho, hb1⟩
 have HB1 : Hid (Below w.heap.size w w1) := hB0.out.trans (hb1.mono hB0.out.size)
 have HBX : Hid (w1.heap[w.heap.size + 1]? = some (.cells #[.slice none 0 0] 29 (0, 0))) := heap_below hb1 (by rw [show w.heap.size + 1 = (w.alloc (.cells #[.slice al ml cl, .slice ae me ce] 25)).heap.size by simp]; exact heap_alloc_new _ _)
 have hsz1 : w.heap.size + 2 ≤ w1.heap.size := by have := hb1.size; simpa using this
 have HO := Lib.hid ho
 clear ho hb1 HB hB0
 gi_wp2_with (fail)
 refine ⟨trivial, ?_⟩
 refine (callsIn_wide.2 (regions_any vl' ve' vr vv w1)).mono ?_
 rintro e w2 ⟨rfl, hw2⟩
 have F : w2.heap.size = w1.heap.size + 1 ∧ Below w1.heap.size w1 w2 ∧ w2.cell? ⟨w1.heap.size, 0, none⟩ = some vl' ∧ w2.cell? ⟨w1.heap.size, 1, none⟩ = some ve' ∧ w2.cell? ⟨w1.heap.size, 2, none⟩ = some vr ∧ w2.cell? ⟨w1.heap.size, 3, none⟩ = some vv := by
   subst hw2
   exact ⟨by simp, (Below.refl _ _).alloc (Nat.le_refl _) _, by simp [go_sem], by simp [go_sem], by simp [go_sem], by simp [go_sem]⟩
 obtain ⟨f1, f2, f3, f4, f5, f6⟩ := F
 have hbx2 := heap_below f2 HBX.out
 have hseq := regions1_told 5 (by omega) w1.heap.size g.dim w2.heap.size (w.heap.size + 1) 29 vl' ve' vr vv g.reach g.living w2 (Nat.le_refl _) (by omega) (by omega) (by omega) hbx2 HO.out.l HO.out.e
   ((HO.out.r.below f2).notBox g.sq hbx2) ((HO.out.v.below f2).notBox (fun u hu e => by subst e; simp [ints] at hu) hbx2) g.sq (by have := g.dim_le; omega) g.living_lt (by have := g.living_len; omega) g.transR f3 f4 f5 f6
 have HSEQ := Lib.hid hseq
 have HI0 : Hid (SeqAt w w2.heap.size (w.heap.size + 1) [] w2) := ⟨⟨_, hbx2, World.ownsRow_nil _ _ _ _⟩, Nat.le_refl _, Nat.zero_le _, HB1.out.trans (f2.mono HB1.out.size)⟩
 have hsz2 : w1.heap.size + 1 ≤ w2.heap.size := by omega
 have hll : g.living.length ≤ 1000000 := by have := g.living_len; omega
 clear hw2 f1 f2 f3 f4 f5 f6 hbx2 hseq HO HBX
 gi_wp2
 refine wpIn_rangeFunc_told rfl (by decide) (gf := 82) (lb := #[.pointer (some ⟨w1.heap.size, 0, none⟩)]) rfl trivial (enters_of Tryz.func82 (by kernel_rfl) rfl) HSEQ.out (Below.refl _ _) (fun _ => rfl)
   (fun xs W => SeqAt w w2.heap.size (w.heap.size + 1) xs W) (fun xs A B h hb => seqAt_below h hb) (fun xs => steady_seqAt (by omega) (by omega) xs) (fun x => steady_regOk _ _) KeepsR.trans (fun A => steady_keepsR (by omega) (by omega) A) (KeepsR.refl _ _)
   HI0.out
   (fun x a' W => ∃ Bx, W.heap[Bx]? = some (.cells (regCells x.1).toArray 45 (0, 0)) ∧ a' = { tmps := #[.agg #[.slice al ml cl, .slice ae me ce], .pointer (some ⟨w.heap.size, 0, none⟩), .slice none 0 0, .pointer (some ⟨w.heap.size + 1, 0, none⟩), .pointer (some ⟨Bx, 0, none⟩), .agg #[.slice al ml cl, .slice ae me ce], .agg #[vl', ve', vr, vv], .func (.func 82) #[] #[.pointer (some ⟨w1.heap.size, 0, none⟩)], x.1, undef, undef, undef, undef, undef, undef, undef, undef, undef, undef], defers := [] })
   (fun x a' A l o o' hl h h1 h2 ⟨Bx, hb, ha⟩ => ⟨Bx, by rw [World.putObj_heap_other (by rintro rfl; rw [hb] at h; cases h; simp [Obj.isCells] at h1)]; exact hb, ha⟩) ?assign ?body ?done
 case assign =>
   rintro l pre ⟨x, r⟩ W K hI hT hK
   obtain ⟨vl3, vs3, us, hx, k1, k2, k3⟩ := hT.1
   dsimp only at hx
   obtain ⟨a1, c1, hv1⟩ := ownsRow_form k1
   obtain ⟨a2, c2, hv2⟩ := ownsRow_form k2
   dsimp only at hv1
   clear k1 k2 k3
   obtain ⟨cb, hcb⟩ : ∃ cb, r.conflict = cb := ⟨_, rfl⟩
   obtain ⟨nl, hnl⟩ : ∃ nl, r.lines.length = nl := ⟨_, rfl⟩
   rw [hnl] at hv1
   rw [hv1, hv2, hcb] at hx
   have HI := Lib.hid hI
   have HT := Lib.hid hT
   clear hI hT hv1 hv2 hcb hnl
   subst hx
   gi_wp2
   have hba : Below W.heap.size W (W.alloc (.cells #[.bool cb, .slice a1 nl c1, .slice a2 us.length c2] 45)) := (Below.refl _ _).alloc (Nat.le_refl _) _
   exact hK _ _ ((KeepsOthers.alloc _ _).from _) (KeepsR.of_below HI.out.2.1 (HI.out.1.elim fun _ h => h.1.lt) hba) (seqAt_below HI.out hba) (HT.out.below hba) ⟨W.heap.size, World.alloc_heap_new W _, rfl⟩
 case body =>
   rintro l pre ⟨x, r⟩ a' W hI hT ⟨Bx, hbx, rfl⟩ hlt
   obtain ⟨vl3, vs3, us, hx, k1, k2, k3⟩ := id hT.1
   dsimp only at hx
   obtain ⟨a1, c1, hv1⟩ := ownsRow_form k1
   obtain ⟨a2, c2, hv2⟩ := ownsRow_form k2
   dsimp only at hv1 k1 k3
   subst hv1 hv2
   have q1 : W.cell? ⟨Bx, 1, none⟩ = some (.slice a1 r.lines.length c1) := by rw [cell_of_heap hbx, hx]; rfl
   have q2 : W.cell? ⟨Bx, 2, none⟩ = some (.slice a2 us.length c2) := by rw [cell_of_heap hbx, hx]; rfl
   have hbxl := cell_lt q1
   obtain ⟨⟨v, hv, hrow⟩, hn0, hlen, hBw⟩ := hI
   obtain ⟨av, cv, hvv⟩ := ownsRow_form hrow
   subst hvv
   have q0 := hv.cell
   have f0 := hv.frozen
   have hlv := hv.lt
   have HX := Lib.hid hx
   have HBXX := Lib.hid hbx
   have HK := Lib.hid (And.intro k1 (And.intro k2 k3))
   have HV := Lib.hid (And.intro hv hrow)
   have HBW := Lib.hid hBw
   have hsm := hT.2
   obtain ⟨m, hm⟩ : ∃ m, (pre.flatMap fun x => x.2.all).length = m := ⟨_, rfl⟩
   rw [hm] at q0 HV hlen
   have HM := Lib.hid hm
   have HSM := Lib.hid hsm
   clear hx k1 k2 k3 hv hrow hBw hbx hT hsm hm
   obtain ⟨C, hC⟩ : ∃ C : World → Prop, C = fun w' => w'.cell? ⟨w.heap.size + 1, 0, none⟩ = some (.slice av m cv) ∧ w'.cell? ⟨Bx, 1, none⟩ = some (.slice a1 r.lines.length c1) ∧ w'.cell? ⟨Bx, 2, none⟩ = some (.slice a2 us.length c2) := ⟨_, rfl⟩
   have hC0 : C W.drew := by rw [hC]; exact ⟨q0, q1, q2⟩
   have hne : Nonempty (Cls C) := ⟨⟨_, hC0⟩⟩
   have c1' : ∀ p : Cls C, p.w.cell? ⟨w.heap.size + 1, 0, none⟩ = some (.slice av m cv) := by subst hC; exact fun p => p.h.1
   have c2' : ∀ p : Cls C, p.w.cell? ⟨Bx, 1, none⟩ = some (.slice a1 r.lines.length c1) := by subst hC; exact fun p => p.h.2.1
   have c3' : ∀ p : Cls C, p.w.cell? ⟨Bx, 2, none⟩ = some (.slice a2 us.length c2) := by subst hC; exact fun p => p.h.2.2
   have HCC := Lib.hid hC
   clear hC
   refine wpIn_block ?_
   refine wpIn_region_ord C 9 [(0, true), (1, true), (2, true), (4, true), (5, true), (3, false), (6, false), (7, false), (8, false), (9, false)] (by kernel_rfl) (by rintro ⟨_, _, h⟩; exact h) (by kernel_rfl) (by kernel_rfl) hC0 ?_
   iterate 5 (refine wpOrd_pure rfl (fun _ _ _ _ h => h) rfl (fun K hK => ?_); go_simp; refine hK _ ?_; clear hK K)
   refine wpOrd_eff rfl rfl (fun K hK => ?_)
   go_simp
   refine hK _ _ (.inr ?_) ?_
   · rw [HCC.out]; exact ⟨alloc_cell q0 _, alloc_cell q1 _, alloc_cell q2 _⟩
   clear hK K
   have b3 : Below W.heap.size W (W.alloc (.cells #[.slice a1 r.lines.length c1] 29)).drew := ((Below.refl _ _).alloc (Nat.le_refl _) _).drew
   have own3 : (W.alloc (.cells #[.slice a1 r.lines.length c1] 29)).drew.ownsRow W.heap.size 29 1 (.slice (some ⟨W.heap.size, 0, none⟩) 1 1) 1 [.slice a1 r.lines.length c1] :=
     ⟨rfl, .inr ⟨W.heap.size, 1, _, rfl, Nat.le_refl _, heap_alloc_new W _, Nat.le_refl _, by decide, rfl, rfl⟩⟩
   have hus : us.length = r.sides.length := HK.out.2.2.1
   have hb1 : r.sides.length ≤ 2000000 := HSM.out.1
   have hb2 : r.lines.length + r.sides.flatten.length ≤ 2000000 := HSM.out.2
   have hub : us.length ≤ 2000000 := by omega
   have hone : ∀ u ∈ us, u.oneCell' = true := by
     intro u hu
     obtain ⟨i, hi, rfl⟩ := List.mem_iff_getElem.1 hu
     obtain ⟨a, c, e⟩ := ownsRow_form (HK.out.2.2.2 i us[i] (r.sides[i]'(by omega)) (List.getElem?_eq_getElem hi) (List.getElem?_eq_getElem (by omega)))
     rw [e]; rfl
   refine wpOrd_eff rfl rfl (fun K hK => ?_)
   refine wp_app _ _ _ (by rfl) W.heap.size 29 (.slice none 0 0) 1 24 Tryz.underlying43 info_ints rfl (by decide) _ 1 [.slice a1 r.lines.length c1] (by rfl) own3 _ us.length us (by rfl) ((ownsRow_slAt HK.out.2.1).below b3).src hone (by omega) (by omega) (by simp) ?_
   intro a4 c4 w4 own4 grow4 hat4
   have b4 : Below W.heap.size W w4 := b3.grown grow4 (by simp) (fun j hj => by have : W.heap.size = j := Option.some.inj hj; omega)
   refine hK _ _ (.inr ?_) ?_
   · rw [HCC.out]; exact ⟨below_cell b4 q0, below_cell b4 q1, below_cell b4 q2⟩
   clear hK K
   have hsl4 : SlOf w4 (.slice a4 (1 + us.length) c4) (((r.lines :: r.sides).map nats).map ints) := by
     have h1 := ownsRow_slAt own4
     refine ⟨_, h1, by simp [hus], fun i u rr hu hr => ?_⟩
     cases i with
     | zero =>
       simp at hu hr
       subst hu hr
       exact (ownsRow_slAt HK.out.1).below b4
     | succ i =>
       have hu' : us[i]? = some u := by simpa using hu
       rw [List.map_map, List.getElem?_map, List.getElem?_cons_succ] at hr
       obtain ⟨sd, hsd, rfl⟩ := Option.map_eq_some_iff.1 hr
       exact (ownsRow_slAt (HK.out.2.2.2 i u sd hu' hsd)).below b4
   have hall : ((r.lines :: r.sides).map nats).flatten = nats r.all := by
     unfold Reg.all nats
     rw [List.map_append, List.map_flatten, List.map_cons, List.flatten_cons]
   have hal : r.all.length ≤ 2000000 := by unfold Reg.all; rw [List.length_append]; exact hb2
   have hcon := ConcatInts_any ((r.lines :: r.sides).map nats) _ w4 hsl4 (by simp; omega) (by rw [hall, nats_length]; omega)
   rw [hall, nats_length] at hcon
   have HCON := Lib.hid hcon
   clear hcon hsl4 hone own3 own4 grow4 hat4 b3 hall hus
   refine wpOrd_eff rfl rfl (fun K hK => ?_)
   go_simp
   with_reducible refine HCON.out.mono ?_
   rintro e w5 ⟨u5, rfl, own5, b5⟩
   obtain ⟨a5, c5, hu5⟩ := ownsRow_form own5
   subst hu5
   have b5' : Below W.heap.size W w5 := b4.trans (b5.mono b4.size)
   refine hK _ _ (.inr ?_) ?_
   · rw [HCC.out]; exact ⟨below_cell b5' q0, below_cell b5' q1, below_cell b5' q2⟩
   clear hK K
   have hv5 : Boxed w5 (w.heap.size + 1) 29 (.slice av m cv) := heap_below b5' HV.out.1
   have hrow5 := ownsRow_below HV.out.2 b5'
   have hneB := hv5.not_row (by decide) hrow5
   have hneX : some Bx ≠ (Value.slice av m cv).ownBlock := by
     rcases hrow5.2 with ⟨h, _⟩ | ⟨gb, cap, cur, h, _, hgb, _⟩
     · rw [h]; simp [Value.ownBlock]
     · rw [h]
       intro e2
       obtain rfl : Bx = gb := by simpa [Value.ownBlock] using e2
       rw [heap_below b5' HBXX.out] at hgb
       injection hgb with e3
       injection e3 with _ e4 _
       exact absurd e4 (by decide)
   refine wpOrd_eff rfl rfl (fun K hK => ?_)
   have hs5 := b5'.size
   refine wp_app _ _ _ (by rfl) w2.heap.size 3 (.int .i64 0) 1 8 Tryz.underlying29 info_int rfl (by decide) _ m _ (by rfl) hrow5 _ r.all.length (ints (nats r.all)) (by rfl) (by have := (ownsRow_slAt own5).src; rwa [ints_length, nats_length] at this) (oneCell_ints _) (by omega) (by omega) (by omega) ?_
   intro a6 c6 w6 own6 grow6 hat6
   have hv6 : Boxed w6 (w.heap.size + 1) 29 (.slice av m cv) := hv5.kept grow6 hneB
   have y0 := hv6.cell
   have yf := hv6.frozen
   refine hK _ _ (.inr ?_) ?_
   · rw [HCC.out]
     exact ⟨y0, (grow6.cell_far ⟨Bx, 1, none⟩ (Nat.lt_of_lt_of_le hbxl hs5) hneX).trans (below_cell b5' q1), (grow6.cell_far ⟨Bx, 2, none⟩ (Nat.lt_of_lt_of_le hbxl hs5) hneX).trans (below_cell b5' q2)⟩
   clear hK K
   simp only [Act.put, List.setIfInBounds_toArray]
   have hkr : KeepsR w2.heap.size (w.heap.size + 1) W (w6.setCell ⟨w.heap.size + 1, 0, none⟩ (.slice a6 (m + r.all.length) c6)) :=
     (KeepsR.of_below hn0 hlv b5').trans (KeepsR.appended hv5 (by omega) hneB grow6 (hat6.imp id fun h gg e => by rw [h] at e; have := Option.some.inj e; omega))
   have hko : KeepsOthers W (w6.setCell ⟨w.heap.size + 1, 0, none⟩ (.slice a6 (m + r.all.length) c6)) :=
     ((KeepsOthers.of_grownBy (grownBy_of_below b5' none) (fun j o e => by cases e)).trans (KeepsOthers.of_grownBy grow6 (fun j o e ho => by
       rcases hrow5.2 with ⟨h, _⟩ | ⟨gb, cap, cur, h, _, hgb, _⟩
       · rw [h] at e; simp [Value.ownBlock] at e
       · rw [h] at e
         obtain rfl : gb = j := by simpa [Value.ownBlock] using e
         rw [hgb] at ho; cases ho; rfl))).trans (KeepsOthers.setCell _ _ _)
   have hown7 := ownsRow_setCell_below own6 (a := ⟨w.heap.size + 1, 0, none⟩) (by show w.heap.size + 1 < w2.heap.size; omega) (.slice a6 (m + r.all.length) c6)
   have hv7 : Boxed (w6.setCell ⟨w.heap.size + 1, 0, none⟩ (.slice a6 (m + r.all.length) c6)) (w.heap.size + 1) 29 (.slice a6 (m + r.all.length) c6) := hv6.set _
   have hB7 : Below w.heap.size w (w6.setCell ⟨w.heap.size + 1, 0, none⟩ (.slice a6 (m + r.all.length) c6)) :=
     (((HBW.out.trans (b5'.mono HBW.out.size)).grown grow6 (by have := HBW.out.size; omega) (fun j hj => by have := (hrow5.lt j hj).1; omega)).setCell (by show w.heap.size ≤ w.heap.size + 1; omega) _)
   have hfl : ((pre ++ [(x, r)]).flatMap fun x => x.2.all) = (pre.flatMap fun x => x.2.all) ++ r.all := by simp
   have hfn : ((pre ++ [(x, r)]).flatMap fun x => x.2.all).length = m + r.all.length := by rw [hfl, List.length_append, HM.out]
   have hres : KeepsFrom w2.heap.size W (w6.setCell ⟨w.heap.size + 1, 0, none⟩ (.slice a6 (m + r.all.length) c6)) ∧ KeepsR w2.heap.size (w.heap.size + 1) W (w6.setCell ⟨w.heap.size + 1, 0, none⟩ (.slice a6 (m + r.all.length) c6)) ∧ SeqAt w w2.heap.size (w.heap.size + 1) (pre ++ [(x, r)]) (w6.setCell ⟨w.heap.size + 1, 0, none⟩ (.slice a6 (m + r.all.length) c6)) := by
     refine ⟨hko.from _, hkr, ⟨_, hv7, ?_⟩, Nat.le_trans hn0 hkr.size, ?_, hB7⟩
     · rw [hfn, hfl]
       simpa [ints, nats] using hown7
     · rw [hfn, List.length_append, List.length_singleton]; omega
   have HRES := Lib.hid hres
   clear hres hkr hko hown7 hv7 hB7 hfl hfn hrow5 hneB hneX own6 grow6 hat6 hv6 hv5 own5
   refine wpOrd_eff rfl rfl (fun K hK => ?_)
   go_simp
   refine hK _ _ (.inl rfl) ?_
   clear hK K
   refine wpOrd_nil ?_
   exact HRES.out
 case done =>
   rintro D ys W hD hS ⟨⟨v, hv, hrow⟩, hn0, hlen, hBw⟩ hK
   have hc := hv.cell
   have hcl := cell_lt hc
   obtain ⟨av, cv, hvv⟩ := ownsRow_form hrow
   subst hvv
   have HV := Lib.hid (And.intro hrow hBw)
   have HS := Lib.hid hS
   obtain ⟨m, hm⟩ : ∃ m, (ys.flatMap fun x => x.2.all).length = m := ⟨_, rfl⟩
   rw [hm] at hc HV
   have HM := Lib.hid hm
   clear hv hrow hBw hS hm hlen
   gi_wp2
   refine ⟨by simp, .inl ⟨_, _, rfl, run_takeDeferred hK, ?_⟩⟩
   have hDs : D < W.heap.size := (Array.getElem?_eq_some_iff.1 hK).1
   have hw2D : w.heap.size ≤ D := by omega
   refine ⟨_, results_tmp rfl _ _ _, _, rfl, ?_, HV.out.2.grown (grownBy_putObj' W D _) HV.out.2.size (fun k e => by have := Option.some.inj e; omega)⟩
   have hown := ownsRow_putObj HV.out.1 (.deferred none) hK rfl
   have hsl := (ownsRow_slAt hown).slAtP_of (ok := fun b => w.heap.size ≤ b) (fun k hk => by have := (hown.lt k hk).1; omega)
   have he : (ys.flatMap fun x => x.2.all) = seqL g.reach g.living := by
     unfold seqL
     rw [← HS.out, List.flatMap_map]
   rw [he] at hsl
   exact hsl
theorem Sequence_any (vl ve : Value) (g : Gr) (w : World) (hg : GrAt w vl ve g) :
   Calls Tryz.prog 15 #[.agg #[vl, ve]] w fun e w' => ∃ v, e = .returned v ∧ SlAt w' v (ints (nats (seqL g.reach g.living))) ∧ Below w.heap.size w w' :=
 (Sequence_own vl ve g w hg).mono fun e w' ⟨v, he, hs, hb⟩ => ⟨v, he, hs.slAt, hb⟩
end Go.Proofs.Lg

namespace Go.Proofs.Lg
open Go Go.RowKit
theorem SlAt.form {w : World} {v : Value} {xs : List Value} (h : SlAt w v xs) : ∃ a c, v = .slice a xs.length c ∧ xs.length ≤ 9223372036854775807 ∧ ∀ k (hk : k < xs.length), ∃ b off, a = some ⟨b, off, none⟩ ∧ w.cell? ⟨b, off + k, none⟩ = some xs[k] := by
 have hle := h.le
 obtain ⟨a, c, rfl, _, _, h3⟩ := h
 refine ⟨a, c, rfl, hle, fun k hk => ?_⟩
 obtain ⟨b, off, ha, hc⟩ := h3 (by intro e; subst e; simp at hk)
 exact ⟨b, off, ha, hc k _ (List.getElem?_eq_getElem hk)⟩
theorem SlAt.formI {w : World} {v : Value} {l : List Int} (h : SlAt w v (ints l)) : ∃ a c, v = .slice a l.length c ∧ ∀ (k : Nat) (x : Int), l[k]? = some x → ∃ b off, a = some ⟨b, off, none⟩ ∧ w.cell? ⟨b, off + k, none⟩ = some (.int .i64 x) := by
 obtain ⟨a, c, rfl, _, _, h3⟩ := h
 refine ⟨a, c, by rw [ints_length], fun k x hk => ?_⟩
 have hk2 : (ints l)[k]? = some (.int .i64 x) := by simp [ints, hk]
 obtain ⟨b, off, ha, hc⟩ := h3 (by intro e; rw [e] at hk2; simp at hk2)
 exact ⟨b, off, ha, hc k _ hk2⟩
set_option maxRecDepth 100000 in
set_option maxHeartbeats 2000000 in
theorem refSameInts_true (l : List Int) (va vb : Value) (w : World) (ha : SlAt w va (ints l)) (hb : SlAt w vb (ints l)) (_hl : l.length ≤ 10000000) :
   Calls Tryz.prog 9 #[va, vb] w fun e w' => e = .returned (.bool true) ∧ Below w.heap.size w w' := by
 obtain ⟨a, ca, rfl, hca⟩ := ha.formI
 obtain ⟨b, cb, rfl, hcb⟩ := hb.formI
 have HA := Lib.hid hca
 have HB := Lib.hid hcb
 clear hca hcb ha hb
 go_enter Tryz.func9, Tryz.ntmps9
 go_wp2
 go_loopw [5] (fun i wr => ∃ k : Nat, k ≤ l.length ∧ i = .int .i64 k ∧ Keep w wr) (fun i _ => l.length - (intOf i).toNat)
 case atStart => exact ⟨0, Nat.zero_le _, rfl, Keep.refl _⟩
 case round =>
   obtain ⟨k, hk, rfl, hK⟩ := hrel
   by_cases hlt : k < l.length
   · obtain ⟨b1, o1, rfl, c1⟩ := HA.out k _ (List.getElem?_eq_getElem hlt)
     obtain ⟨b2, o2, rfl, c2⟩ := HB.out k _ (List.getElem?_eq_getElem hlt)
     clear HA HB
     generalize l[k] = x at *
     have hne : Nonempty (Cls (Keep wr)) := ⟨⟨wr, Keep.refl wr⟩⟩
     have q1 : ∀ p : Cls (Keep wr), p.w.cell? ⟨b1, o1 + k, none⟩ = some (.int .i64 x) := fun p => below_cell p.h (below_cell hK c1)
     have q2 : ∀ p : Cls (Keep wr), p.w.cell? ⟨b2, o2 + k, none⟩ = some (.int .i64 x) := fun p => below_cell p.h (below_cell hK c2)
     have i1 : (0 : Int) ≤ (k : Int) := by omega
     have i2 : (k : Int) < l.length := by omega
     clear c1 c2
     go_wp2
     refine wp_region_cls (Keep wr) (by kernel_rfl) (by kernel_rfl) (Keep.drew wr) ?_
     repeat (go_big_quiet_step (fail))
     refine wpQuiet_nil ?_
     rintro w1 ⟨⟨_, hw1⟩, rfl⟩
     go_wp2
     go_roundw
     case rel => exact ⟨k + 1, by omega, by go_num, hK.trans hw1⟩
     case measure => simp [intOf]; omega
   · go_wp2
     go_ret
     exact ⟨rfl, hK⟩
set_option maxRecDepth 100000 in
set_option maxHeartbeats 4000000 in
theorem refSameInts21_true (rows : List (List Int)) (va vb : Value) (w : World) (ha : SlOf w va (rows.map ints)) (hb : SlOf w vb (rows.map ints)) (hl : rows.length ≤ 10000000) (hrl : ∀ r ∈ rows, r.length ≤ 10000000) :
   Calls Tryz.prog 41 #[va, vb] w fun e w' => e = .returned (.bool true) ∧ Below w.heap.size w w' := by
 have hform : ∀ v : Value, SlOf w v (rows.map ints) → ∃ a c, v = .slice a rows.length c ∧ ∀ k (hk : k < rows.length), ∃ b off u au cu, a = some ⟨b, off, none⟩ ∧ u = .slice au rows[k].length cu ∧ w.cell? ⟨b, off + k, none⟩ = some u ∧ SlAt w u (ints rows[k]) := by
   rintro v ⟨vs, hv, hlv, hr⟩
   have hvl : vs.length = rows.length := by simpa using hlv
   obtain ⟨a, c, rfl, _, hc⟩ := hv.form
   rw [hvl]
   refine ⟨a, c, rfl, fun k hk => ?_⟩
   obtain ⟨b, off, ha, hck⟩ := hc k (by omega)
   have hs := hr k vs[k] (ints rows[k]) (List.getElem?_eq_getElem _) (by rw [List.getElem?_map, List.getElem?_eq_getElem hk]; rfl)
   obtain ⟨au, cu, hu, _⟩ := id hs
   rw [ints_length] at hu
   exact ⟨b, off, _, au, cu, ha, hu, hck, hs⟩
 obtain ⟨a, ca, rfl, hca⟩ := hform va ha
 obtain ⟨b, cb, rfl, hcb⟩ := hform vb hb
 have HA := Lib.hid hca
 have HB := Lib.hid hcb
 have HRL := Lib.hid hrl
 clear hca hcb ha hb hform hrl
 go_enter Tryz.func41, Tryz.ntmps41
 go_wp2
 go_loopw [5] (fun i wr => ∃ k : Nat, k ≤ rows.length ∧ i = .int .i64 k ∧ Keep w wr) (fun i _ => rows.length - (intOf i).toNat)
 case atStart => exact ⟨0, Nat.zero_le _, rfl, Keep.refl _⟩
 case round =>
   obtain ⟨k, hk, rfl, hK⟩ := hrel
   obtain ⟨wo, rfl⟩ : ∃ wo : World, wo = wr := ⟨_, rfl⟩
   by_cases hlt : k < rows.length
   · obtain ⟨b1, o1, u1, a1, m1, rfl, rfl, c1, s1⟩ := HA.out k hlt
     obtain ⟨b2, o2, u2, a2, m2, rfl, rfl, c2, s2⟩ := HB.out k hlt
     have hrn := HRL.out _ (List.getElem_mem hlt)
     obtain ⟨a1', m1', he1, f1⟩ := (s1.below hK).formI
     obtain ⟨a2', m2', he2, f2⟩ := (s2.below hK).formI
     injection he1 with he1a he1b he1c
     injection he2 with he2a he2b he2c
     subst he1a he2a
     clear he1b he1c he2b he2c s1 s2
     generalize rows[k] = r at *
     have F1 := Lib.hid f1
     have F2 := Lib.hid f2
     have q1 := below_cell hK c1
     have q2 := below_cell hK c2
     have hne : Nonempty (Cls (Keep wo)) := ⟨⟨wo, Keep.refl wo⟩⟩
     have p1 : ∀ p : Cls (Keep wo), p.w.cell? ⟨b1, o1 + k, none⟩ = some (.slice a1 r.length m1) := fun p => below_cell p.h q1
     have p2 : ∀ p : Cls (Keep wo), p.w.cell? ⟨b2, o2 + k, none⟩ = some (.slice a2 r.length m2) := fun p => below_cell p.h q2
     have i1 : (0 : Int) ≤ (k : Int) := by omega
     have i2 : (k : Int) < rows.length := by omega
     clear c1 c2 f1 f2 HA HB
     go_wp2
     refine wp_region_cls (Keep wo) (by kernel_rfl) (by kernel_rfl) (Keep.drew wo) ?_
     repeat (go_big_quiet_step (fail))
     refine wpQuiet_nil ?_
     rintro w1 ⟨⟨_, hw1⟩, rfl⟩
     clear p1 p2 hne
     have t1 := below_cell hw1 q1
     have t2 := below_cell hw1 q2
     have HK1 : Hid (Keep w w1) := hK.trans hw1
     go_wp2
     go_loopw [6] (fun i wr2 => ∃ j : Nat, j ≤ r.length ∧ i = .int .i64 j ∧ Keep w1 wr2) (fun i _ => r.length - (intOf i).toNat)
     case atStart => exact ⟨0, Nat.zero_le _, rfl, Keep.refl _⟩
     case round =>
       obtain ⟨j, hj, rfl, hJ⟩ := hrel
       have v1 := below_cell hJ t1
       have v2 := below_cell hJ t2
       have vl1 := cell_lt v1
       have vl2 := cell_lt v2
       have h5 := hlt
       have HJ : Hid (Below w.heap.size w wr) := Keep.trans HK1.out hJ
       by_cases hlj : j < r.length
       · obtain ⟨b3, o3, rfl, c3⟩ := F1.out j _ (List.getElem?_eq_getElem hlj)
         obtain ⟨b4, o4, rfl, c4⟩ := F2.out j _ (List.getElem?_eq_getElem hlj)
         generalize r[j] = x at *
         clear F1 F2
         have hne : Nonempty (Cls (Keep wr)) := ⟨⟨wr, Keep.refl wr⟩⟩
         have p1 : ∀ p : Cls (Keep wr), p.w.cell? ⟨b1, o1 + k, none⟩ = some (.slice (some ⟨b3, o3, none⟩) r.length m1) := fun p => below_cell p.h v1
         have p2 : ∀ p : Cls (Keep wr), p.w.cell? ⟨b2, o2 + k, none⟩ = some (.slice (some ⟨b4, o4, none⟩) r.length m2) := fun p => below_cell p.h v2
         have p3 : ∀ p : Cls (Keep wr), p.w.cell? ⟨b3, o3 + j, none⟩ = some (.int .i64 x) := fun p => below_cell p.h (below_cell hJ (below_cell hw1 c3))
         have p4 : ∀ p : Cls (Keep wr), p.w.cell? ⟨b4, o4 + j, none⟩ = some (.int .i64 x) := fun p => below_cell p.h (below_cell hJ (below_cell hw1 c4))
         have j1 : (0 : Int) ≤ (j : Int) := by omega
         have j2 : (j : Int) < r.length := by omega
         clear c3 c4
         go_wp2
         refine wp_region_cls (Keep wr) (by kernel_rfl) (by kernel_rfl) (Keep.drew wr) ?_
         repeat (go_big_quiet_step (fail))
         refine wpQuiet_nil ?_
         rintro w3 ⟨⟨_, hw3⟩, rfl⟩
         go_wp2
         go_roundw
         case rel => exact ⟨j + 1, by omega, by go_num, hJ.trans hw3⟩
         case measure => simp [intOf]; omega
       · go_wp2
         go_roundw
         case rel => exact ⟨k + 1, by omega, by go_num, HJ.out⟩
         case measure => simp [intOf]; omega
   · go_wp2
     go_ret
     exact ⟨rfl, hK⟩
end Go.Proofs.Lg
