/-
  Part C8 of this claim's proof. Joined by merge.py from the texts of wip/tpl.
-/
import Derived.Test.YtclholnhkhjjaaaGreatC7
set_option linter.unusedVariables false
set_option linter.unusedSimpArgs false
set_option linter.unnecessarySimpa false
namespace Go.Proofs.Lg
open Go Go.RowKit Go.Shelf
def livFrom : Nat → List Vtx → List Nat
 | _, [] => []
 | k, x :: l => if x.living then k :: livFrom (k + 1) l else livFrom (k + 1) l
def livL (l : List Vtx) : List Nat := livFrom 0 l
theorem livFrom_append : ∀ (l m : List Vtx) (k : Nat), livFrom k (l ++ m) = livFrom k l ++ livFrom (k + l.length) m
 | [], m, k => by simp [livFrom]
 | x :: l, m, k => by
   have e : k + 1 + l.length = k + (l.length + 1) := by omega
   by_cases h : x.living = true <;> simp [livFrom, h, livFrom_append l m (k + 1), e]
theorem livL_snoc (l : List Vtx) (x : Vtx) : livL (l ++ [x]) = if x.living then livL l ++ [l.length] else livL l := by
 unfold livL
 rw [livFrom_append]
 by_cases h : x.living = true <;> simp [livFrom, h]
theorem livFrom_length : ∀ (l : List Vtx) (k : Nat), (livFrom k l).length ≤ l.length
 | [], _ => by simp [livFrom]
 | x :: l, k => by
   have := livFrom_length l (k + 1)
   by_cases h : x.living = true <;> simp [livFrom, h] <;> omega
def Gr.living (g : Gr) : List Nat := if g.check = 0 then livL g.lines else []
structure OdAt (w : World) (vl ve vr vv : Value) (rows : List (List Bool)) (living : List Nat) : Prop where
 l : ∃ a c m, vl = .slice a m c
 e : ∃ a c m, ve = .slice a m c
 r : SlOf w vr (rows.map bools)
 v : SlAt w vv (ints (nats living))
theorem size_Vertex : (Tryz.prog.info? 40).map (·.size) = some 35 := by kernel_rfl
theorem Vtx.cells_length {v : Vtx} (h : v.id.length = 32) : v.cells.length = 35 := by simp [Vtx.cells, h]
theorem Vtx.cells_one (v : Vtx) : ∀ u ∈ v.cells, u.oneCell' = true := by
 intro u hu
 simp only [Vtx.cells, List.mem_append, List.mem_map, List.mem_cons, List.not_mem_nil, or_false] at hu
 rcases hu with ⟨x, _, rfl⟩ | rfl | rfl | rfl <;> rfl
theorem Vtx.cells_living {v : Vtx} (h : v.id.length = 32) : v.cells.toArray[34]? = some (Value.bool v.living) := by simp [Vtx.cells, h]
set_option maxHeartbeats 4000000 in
set_option maxRecDepth 100000 in
theorem begin_any (vl ve : Value) (g : Gr) (w : World) (hg : GrAt w vl ve g) :
   Calls Tryz.prog 36 #[.agg #[vl, ve]] w fun e w' => ∃ vl' ve' vr vv, e = .returned (.agg #[vl', ve', vr, vv]) ∧ OdAt w' vl' ve' vr vv g.reach g.living ∧ Below w.heap.size w w' := by
 obtain ⟨al, cl, hvl, hl3⟩ : ∃ a c, vl = .slice a g.lines.length c ∧ (g.lines.map Vtx.cells ≠ [] → ∃ b off, a = some ⟨b, off, none⟩ ∧ ∀ (i : Nat) (u : List Value), (g.lines.map Vtx.cells)[i]? = some u → w.rangeAt b (off + i * 35) u) := by obtain ⟨a, c, h, _, _, h3⟩ := hg.lines; exact ⟨a, c, by simpa using h, h3⟩
 have HL3 := Lib.hid hl3
 clear hl3
 obtain ⟨ae, ce, hve⟩ : ∃ a c, ve = .slice a g.edges.length c := by obtain ⟨a, c, h, _⟩ := hg.edges; exact ⟨a, c, by simpa using h⟩
 subst hvl hve
 by_cases hck : g.check = 0
 · have h1 : (g.check == 0) = true := by simp [hck]
   have h2 : (g.check != 0) = false := by simp [hck]
   have HCK := Lib.hid hck
   have HG := Lib.hid hg
   clear hck hg
   go_enter Tryz.func36, Tryz.ntmps36
   go_wp2_with fail
   refine (Check_any _ _ g _ (HG.out.below (((Below.refl _ _).alloc (Nat.le_refl _) _).alloc (by simp) _))).mono ?_
   rintro e w1 ⟨rfl, hb1⟩
   have hs := hb1.size
   simp at hs
   have x0 : w1.cell? ⟨w.heap.size, 0, none⟩ = some (.slice al g.lines.length cl) := below_cell hb1 (by simp [go_sem])
   have x1 : w1.cell? ⟨w.heap.size, 1, none⟩ = some (.slice ae g.edges.length ce) := below_cell hb1 (by simp [go_sem])
   have hres : w1.heap[w.heap.size + 1]? = some (.cells #[.slice none 0 0, .slice none 0 0, .slice none 0 0, .slice none 0 0] 78 (0, 0)) := heap_below hb1 (by rw [show w.heap.size + 1 = (w.alloc (.cells #[.slice al g.lines.length cl, .slice ae g.edges.length ce] 25)).heap.size by simp]; exact heap_alloc_new _ _)
   have hbw1 : Below w.heap.size w w1 := (((Below.refl _ _).alloc (Nat.le_refl _) _).alloc (by simp) _).trans (hb1.mono (by simp; omega))
   have HX0 := Lib.hid x0
   have HX1 := Lib.hid x1
   have HRES := Lib.hid hres
   clear hb1 hres
   go_upto_region 3 with fail
   go_cut [3] (fun s3 wx => ∃ (X : Nat) (vr : Value), s3 = .pointer (some ⟨X, 0, none⟩) ∧ wx.heap[X]? = some (.cells #[.slice al g.lines.length cl, .slice ae g.edges.length ce, vr, .slice none 0 0] 78 (0, 0)) ∧ w1.heap.size ≤ X ∧ SlOfP (fun b => b ≠ X ∧ w1.heap.size ≤ b) wx vr (g.reach.map bools) ∧ Below w1.heap.size w1 wx)
   case first =>
     have hne : Nonempty (Cls (Keep w1)) := ⟨⟨w1, Keep.refl w1⟩⟩
     have c0 : ∀ p : Cls (Keep w1), p.w.cell? ⟨w.heap.size, 0, none⟩ = some (.slice al g.lines.length cl) := fun p => below_cell p.h HX0.out
     have c1 : ∀ p : Cls (Keep w1), p.w.cell? ⟨w.heap.size, 1, none⟩ = some (.slice ae g.edges.length ce) := fun p => below_cell p.h HX1.out
     refine wp_region_E (Keep w1) 5 (by kernel_rfl) ?_
     have HCW := Keep.drew w1
     refine wpE_pure (i := 0) rfl (by kernel_rfl) (fun _ _ _ _ h => h) rfl HCW (fun K hK => ?_); go_simp; refine hK _ ?_; clear hK K
     refine wpE_pure (i := 1) rfl (by kernel_rfl) (fun _ _ _ _ h => h) rfl HCW (fun K hK => ?_); go_simp; refine hK _ ?_; clear hK K
     refine wpE_two (i := 2) (j := 4) rfl rfl (by kernel_rfl) rfl rfl (fun K hK => ?_) (fun K hK => ?_)
     · go_simp
       refine (Reaches_any _ _ g _ (HG.out.below (hbw1.drew))).mono ?_
       rintro e w2 ⟨vr, rfl, hr, hb2⟩
       obtain ⟨a2, c2, m2, rfl⟩ : ∃ a c m, vr = .slice a m c := by obtain ⟨vs, ⟨a, c, h, _⟩, _⟩ := hr; exact ⟨a, c, _, h⟩
       have hK2 : Keep w1 w2 := HCW.trans hb2
       refine hK _ _ (.inr hK2) ?_
       clear hK K
       refine wpE_pure (i := 3) rfl (by kernel_rfl) (fun _ _ _ _ h => h) rfl hK2 (fun K hK => ?_); go_simp; refine hK _ ?_; clear hK K
       refine wpE_one (i := 4) rfl (by kernel_rfl) rfl (fun K hK => ?_)
       go_simp
       refine hK _ _ (.inr (hK2.trans ((Below.refl _ _).alloc (Nat.le_refl _) _))) ?_
       clear hK K
       refine wpE_one (i := 5) rfl (by kernel_rfl) rfl (fun K hK => ?_)
       go_simp
       refine hK _ _ (.inl rfl) ?_
       clear hK K
       refine wpE_done (by kernel_rfl) ?_
       go_wp2_with fail
       go_meet
       have hr' : SlOfP (fun b => b ≠ w2.heap.size ∧ w1.heap.size ≤ b) (w2.alloc (.cells #[.slice al g.lines.length cl, .slice ae g.edges.length ce, .slice a2 m2 c2, .slice none 0 0] 78)) (.slice a2 m2 c2) (g.reach.map bools) :=
         (hr.lt.stays (fun b hb hb' => Below.heap_alloc _ _ _ hb')).mono (fun b hb => by have h1 : w1.heap.size ≤ b := hb.1; have h2 : b < w2.heap.size := hb.2; exact ⟨by omega, h1⟩)
       exact ⟨w2.heap.size, _, rfl, heap_alloc_new w2 _, hb2.size, hr', hK2.trans ((Below.refl _ _).alloc (Nat.le_refl _) _)⟩
     · go_simp
       have hKA : Keep w1 ((w1.alloc (.cells #[.slice none 0 0, .slice none 0 0, .slice none 0 0, .slice none 0 0] 78)).drew) := ((Below.refl _ _).alloc (Nat.le_refl _) _).drew
       refine hK _ _ (.inr hKA) ?_
       clear hK K
       refine wpE_one (i := 2) rfl (by kernel_rfl) rfl (fun K hK => ?_)
       go_simp
       refine (Reaches_any _ _ g _ (HG.out.below (hbw1.trans (hKA.mono hbw1.size)))).mono ?_
       rintro e w2 ⟨vr, rfl, hr, hb2⟩
       obtain ⟨a2, c2, m2, rfl⟩ : ∃ a c m, vr = .slice a m c := by obtain ⟨vs, ⟨a, c, h, _⟩, _⟩ := hr; exact ⟨a, c, _, h⟩
       have hK2 : Keep w1 w2 := hKA.trans hb2
       have hX2 : w2.heap[w1.heap.size]? = some (.cells #[.slice none 0 0, .slice none 0 0, .slice none 0 0, .slice none 0 0] 78 (0, 0)) := heap_below hb2 (heap_alloc_new w1 _)
       refine hK _ _ (.inr hK2) ?_
       clear hK K
       refine wpE_pure (i := 3) rfl (by kernel_rfl) (fun _ _ _ _ h => h) rfl hK2 (fun K hK => ?_); go_simp; refine hK _ ?_; clear hK K
       refine wpE_one (i := 5) rfl (by kernel_rfl) rfl (fun K hK => ?_)
       have q0 : w2.cell? ⟨w1.heap.size, 0, none⟩ = some (.slice none 0 0) := by rw [cell_of_heap hX2]; rfl
       have q1 : w2.cell? ⟨w1.heap.size, 1, none⟩ = some (.slice none 0 0) := by rw [cell_of_heap hX2]; rfl
       have q2 : w2.cell? ⟨w1.heap.size, 2, none⟩ = some (.slice none 0 0) := by rw [cell_of_heap hX2]; rfl
       have q3 : w2.cell? ⟨w1.heap.size, 3, none⟩ = some (.slice none 0 0) := by rw [cell_of_heap hX2]; rfl
       have f0 : w2.frozen? ⟨w1.heap.size, 0, none⟩ = false := frozen_of_heap hX2
       have f1 : w2.frozen? ⟨w1.heap.size, 1, none⟩ = false := frozen_of_heap hX2
       have f2 : w2.frozen? ⟨w1.heap.size, 2, none⟩ = false := frozen_of_heap hX2
       have f3 : w2.frozen? ⟨w1.heap.size, 3, none⟩ = false := frozen_of_heap hX2
       have HX2 := Lib.hid hX2
       clear hX2
       go_simp
       refine hK _ _ (.inl rfl) ?_
       clear hK K
       refine wpE_done (by kernel_rfl) ?_
       go_wp2_with fail
       go_meet
       refine ⟨w1.heap.size, .slice a2 m2 c2, rfl, ?_, Nat.le_refl _, ?_, (((hK2.setCell (Nat.le_refl _) _).setCell (Nat.le_refl _) _).setCell (Nat.le_refl _) _).setCell (Nat.le_refl _) _⟩
       · rw [heap_setCell_same (heap_setCell_same (heap_setCell_same (heap_setCell_same HX2.out _) _) _) _]; rfl
       · refine (hr.mono (ok' := fun b => b ≠ w1.heap.size ∧ w1.heap.size ≤ b) (fun b hb => ?_)).stays (fun b hb hb' => ?_)
         · have h1 : w1.heap.size + 1 ≤ b := by simpa using hb
           exact ⟨by omega, by omega⟩
         · have hb : b ≠ w1.heap.size := hb.1
           rw [Below.heap_setCell _ _ _ _ hb, Below.heap_setCell _ _ _ _ hb, Below.heap_setCell _ _ _ _ hb, Below.heap_setCell _ _ _ _ hb]
   case rest =>
     obtain ⟨X, vr, rfl, hX, hX1, hR, hB⟩ := hcut
     obtain ⟨a2, c2, m2, hvr⟩ : ∃ a c m, vr = .slice a m c := by obtain ⟨vs, ⟨a, c, h, _⟩, _⟩ := hR; exact ⟨a, c, _, h⟩
     subst hvr
     have x0 : wc.cell? ⟨w.heap.size, 0, none⟩ = some (.slice al g.lines.length cl) := below_cell hB HX0.out
     have HB : Hid (Below w1.heap.size w1 wc) := hB
     have HXC := Lib.hid x0
     have HXX := Lib.hid hX
     have HR := Lib.hid hR
     have hXlt : X < wc.heap.size := (Array.getElem?_eq_some_iff.1 hX).1
     have hfew := HG.out.few
     clear hX hR hB
     go_wp2
     go_loopg [17] (g.lines.length + 1) (fun gk i wr => ∃ (k : Nat) (vv : Value), i = .int .i64 k ∧ k ≤ g.lines.length ∧ gk + k = g.lines.length + 1 ∧ wc.grownBy wr (some X) ∧
       wr.heap[X]? = some (.cells #[.slice al g.lines.length cl, .slice ae g.edges.length ce, .slice a2 m2 c2, vv] 78 (0, 0)) ∧ wr.ownsRow wc.heap.size 3 1 vv (livL (g.lines.take k)).length (ints (nats (livL (g.lines.take k)))))
     case atStart => exact ⟨0, .slice none 0 0, rfl, Nat.zero_le _, rfl, ⟨rfl, rfl, rfl, Nat.le_refl _, fun _ _ _ => rfl⟩, HXX.out, World.ownsRow_nil _ _ _ _⟩
     case round =>
       obtain ⟨k, vv, rfl, hk, hgk, hgr, hX, hown⟩ := hrel
       have hBr : Below w.heap.size w wr := hbw1.trans ((HB.out.grown hgr HB.out.size (fun j hj => by cases hj; exact hX1)).mono hbw1.size)
       have HGR := Lib.hid hgr
       have HOW := Lib.hid hown
       have HXR := Lib.hid hX
       obtain ⟨av, cv, hvv⟩ := ownsRow_form hown
       subst hvv
       clear hgr hown hX
       by_cases hlt : k < g.lines.length
       · obtain ⟨b, off, hab, hc⟩ := HL3.out (by intro e; rw [List.map_eq_nil_iff] at e; simp [e] at hlt)
         have hok := HG.out.okl g.lines[k] (List.getElem_mem _)
         have hr1 := rangeAt_below hBr (hc k g.lines[k].cells (by rw [List.getElem?_map, List.getElem?_eq_getElem hlt]; rfl))
         have htk : livL (g.lines.take (k + 1)) = if g.lines[k].living then livL (g.lines.take k) ++ [k] else livL (g.lines.take k) := by
           rw [List.take_succ_eq_append_getElem hlt, livL_snoc, List.length_take]; rw [Nat.min_eq_left (by omega)]
         generalize g.lines[k] = x at hok hr1 htk
         subst hab
         have HT := Lib.hid htk
         have hu := Tryz.underlying40
         have hcl := Vtx.cells_length hok.1
         have hi : (Tryz.prog.info? 40).map (·.size) = some x.cells.length := by rw [size_Vertex, hcl]
         have hi2 : (Tryz.prog.info? 40).map (·.size) = some x.cells.toArray.size := by rw [size_Vertex]; simp [hcl]
         have y0 : wr.cell? ⟨w.heap.size, 0, none⟩ = some (.slice (some ⟨b, off, none⟩) g.lines.length cl) := by
           have hx := HXC.out
           have h1 : w.heap.size < wc.heap.size := cell_lt hx
           have h2 := (Array.getElem?_eq_some_iff.1 HRES.out).1
           exact (World.cell?_of_block (w := wc) (HGR.out.block w.heap.size h1 (fun e => by have := Option.some.inj e; omega))).trans hx
         have y3 : wr.cell? ⟨X, 3, none⟩ = some (.slice av (livL (g.lines.take k)).length cv) := by rw [cell_of_heap HXR.out]; rfl
         have hliv : ∀ h, (x.cells.toArray)[34]'h = Value.bool x.living := fun h => (Array.getElem?_eq_some_iff.1 (Vtx.cells_living hok.1)).2
         have hliv2 := Vtx.cells_living hok.1
         clear htk hc
         have hXr : X < wr.heap.size := cell_lt y3
         have hll : (livL (g.lines.take k)).length ≤ 1000000 := by
           have := livFrom_length (g.lines.take k) 0
           simp only [List.length_take] at this
           unfold livL; omega
         have hvX : ∀ b, (Value.slice av (livL (g.lines.take k)).length cv).ownBlock = some b → wc.heap.size ≤ b ∧ b < wr.heap.size := fun b e => HOW.out.lt b e
         have HVX := Lib.hid hvX
         have hXlt2 := hXlt
         have hszc := HGR.out.size
         clear hvX
         by_cases hlx : x.living = true
         · rw [if_pos hlx] at HT
           have HOW2 : Hid (((wr.alloc (.cells x.cells.toArray 40)).alloc (.cells #[.int .i64 k] 3)).ownsRow wc.heap.size 3 1 (.slice av (livL (g.lines.take k)).length cv) (livL (g.lines.take k)).length (ints (nats (livL (g.lines.take k))))) := ownsRow_below HOW.out (((Below.refl _ _).alloc (Nat.le_refl _) _).alloc (by simp) _)
           have HSRC : Hid (SrcAt ((wr.alloc (.cells x.cells.toArray 40)).alloc (.cells #[.int .i64 k] 3)) (.slice (some ⟨wr.heap.size + 1, 0, none⟩) 1 1) 1 1 [.int .i64 k]) := by
             refine SrcAt.one _ _ _ [.int .i64 k] fun j u hu => ?_
             cases j with
             | zero => simp at hu; subst hu; simp [go_sem]
             | succ j => simp at hu
           have HONE : Hid (∀ u ∈ [Value.int .i64 (k : Int)], u.oneCell' = true) := by
             intro u hu; simp at hu; subst hu; rfl
           have HN1 : Hid ((livL (g.lines.take k)).length + 1 ≤ 9223372036854775807) := by show _ ≤ _; omega
           have HN2 : Hid (((livL (g.lines.take k)).length + 1) * 8 ≤ 140737488355328) := by show _ ≤ _; omega
           have HBS : Hid (wc.heap.size ≤ ((wr.alloc (.cells x.cells.toArray 40)).alloc (.cells #[.int .i64 k] 3)).heap.size) := by show _ ≤ _; simp; omega
           have HXH : Hid (∀ w2, ((wr.alloc (.cells x.cells.toArray 40)).alloc (.cells #[.int .i64 k] 3)).grownBy w2 (Value.slice av (livL (g.lines.take k)).length cv).ownBlock → w2.heap[X]? = some (.cells #[.slice (some ⟨b, off, none⟩) g.lines.length cl, .slice ae g.edges.length ce, .slice a2 m2 c2, .slice av (livL (g.lines.take k)).length cv] 78 (0, 0))) := fun w2 hgrow2 =>
             ((hgrow2.block X (by simp; omega) (fun e => by have := (HVX.out X e.symm).1; omega)).trans ((Below.heap_alloc _ _ _ (by simp; omega)).trans (Below.heap_alloc _ _ _ hXr))).trans HXR.out
           have HXK : Hid (∀ w2, ((wr.alloc (.cells x.cells.toArray 40)).alloc (.cells #[.int .i64 k] 3)).grownBy w2 (Value.slice av (livL (g.lines.take k)).length cv).ownBlock → w2.cell? ⟨X, 3, none⟩ = some (.slice av (livL (g.lines.take k)).length cv) ∧ w2.frozen? ⟨X, 3, none⟩ = false) := fun w2 hgrow2 => by
             have h2 := HXH.out w2 hgrow2
             exact ⟨by rw [cell_of_heap h2]; rfl, frozen_of_heap h2⟩
           go_wp2_with (first | (refine wpList_load_mid rfl _ _ rfl _ _ rfl _ _ hr1 hu rfl hi ?_; simp only [Act.put, List.setIfInBounds_toArray, List.set_cons_zero, List.set_cons_succ]) | (refine wpList_store_mid rfl 40 _ _ rfl _ _ x.cells.toArray rfl rfl (there_alloc_new _ _ _ _ (by simp [hcl])) hi2 (all_oneCell_toArray x.cells_one) ?_; rw [setCells_alloc_whole _ _ _ _ (by simp [hcl])]; simp only [Act.put]) | (at_builtin; refine wpList_app rfl _ _ _ rfl wc.heap.size 3 (.int .i64 0) 1 8 Tryz.underlying29 info_int rfl (by decide) _ (livL (g.lines.take k)).length (ints (nats (livL (g.lines.take k)))) rfl HOW2.out _ 1 [.int .i64 k] rfl HSRC.out HONE.out HN1.out HN2.out HBS.out ?_; intro a' c' w2 hown2 hgrow2 hat2; obtain ⟨z3, zf⟩ := HXK.out _ hgrow2))
           go_roundg (gk - 1)
           case measure => omega
           case rel =>
             refine ⟨k + 1, .slice a' ((livL (g.lines.take k)).length + 1) c', by go_num, by omega, by omega, ⟨hgrow2.os.trans HGR.out.os, hgrow2.tape.trans HGR.out.tape, hgrow2.output.trans HGR.out.output, ?_, fun j hj hne => ?_⟩, ?_, ?_⟩
             · have h1 := hgrow2.size
               have h2 : (w2.setCell ⟨X, 3, none⟩ (.slice a' ((livL (g.lines.take k)).length + 1) c')).heap.size = w2.heap.size := by simp [World.setCell]
               rw [h2]
               simp at h1
               omega
             · have hjX : j ≠ X := fun e => hne (by rw [e])
               rw [Below.heap_setCell _ _ _ _ hjX, hgrow2.block j (by simp; omega) (fun e => by have := (HVX.out j e.symm).1; omega), Below.heap_alloc _ _ _ (by simp; omega), Below.heap_alloc _ _ _ (by omega)]
               exact HGR.out.block j hj hne
             · rw [heap_setCell_same (HXH.out _ hgrow2)]; rfl
             · rw [HT.out]
               refine ownsRow_setCell_below ?_ (by simpa using hXlt2) _
               simpa [ints, nats] using hown2
         · rw [if_neg hlx] at HT
           have hlx2 : x.living = false := by simpa using hlx
           clear hlx
           go_wp2_with (first | (refine wpList_load_mid rfl _ _ rfl _ _ rfl _ _ hr1 hu rfl hi ?_; simp only [Act.put, List.setIfInBounds_toArray, List.set_cons_zero, List.set_cons_succ]) | (refine wpList_store_mid rfl 40 _ _ rfl _ _ x.cells.toArray rfl rfl (there_alloc_new _ _ _ _ (by simp [hcl])) hi2 (all_oneCell_toArray x.cells_one) ?_; rw [setCells_alloc_whole _ _ _ _ (by simp [hcl])]; simp only [Act.put]))
           go_roundg (gk - 1)
           case measure => omega
           case rel =>
             refine ⟨k + 1, _, by go_num, by omega, by omega, ⟨HGR.out.os, HGR.out.tape, HGR.out.output, by simp; omega, fun j hj hne => (Below.heap_alloc _ _ _ (by omega)).trans (HGR.out.block j hj hne)⟩, (Below.heap_alloc _ _ _ hXr).trans HXR.out, ?_⟩
             rw [HT.out]
             exact ownsRow_below HOW.out ((Below.refl _ _).alloc (Nat.le_refl _) _)
       · have HK : Hid (g.lines.take k = g.lines) := by show g.lines.take k = _; rw [List.take_of_length_le (by omega)]
         have y0 : wr.cell? ⟨X, 0, none⟩ = some (.slice al g.lines.length cl) := by rw [cell_of_heap HXR.out]; rfl
         have y1 : wr.cell? ⟨X, 1, none⟩ = some (.slice ae g.edges.length ce) := by rw [cell_of_heap HXR.out]; rfl
         have y2 : wr.cell? ⟨X, 2, none⟩ = some (.slice a2 m2 c2) := by rw [cell_of_heap HXR.out]; rfl
         have y3 : wr.cell? ⟨X, 3, none⟩ = some (.slice av (livL (g.lines.take k)).length cv) := by rw [cell_of_heap HXR.out]; rfl
         have hrr : wr.heap[w.heap.size + 1]? = some (.cells #[.slice none 0 0, .slice none 0 0, .slice none 0 0, .slice none 0 0] 78 (0, 0)) := by
           have h1 := (Array.getElem?_eq_some_iff.1 HRES.out).1
           have h2 := heap_below HB.out HRES.out
           rw [HGR.out.block _ (Array.getElem?_eq_some_iff.1 h2).1 (by simp; omega)]
           exact h2
         have q0 : wr.cell? ⟨w.heap.size + 1, 0, none⟩ = some (.slice none 0 0) := by rw [cell_of_heap hrr]; rfl
         have q1 : wr.cell? ⟨w.heap.size + 1, 1, none⟩ = some (.slice none 0 0) := by rw [cell_of_heap hrr]; rfl
         have q2 : wr.cell? ⟨w.heap.size + 1, 2, none⟩ = some (.slice none 0 0) := by rw [cell_of_heap hrr]; rfl
         have q3 : wr.cell? ⟨w.heap.size + 1, 3, none⟩ = some (.slice none 0 0) := by rw [cell_of_heap hrr]; rfl
         have f0 : wr.frozen? ⟨w.heap.size + 1, 0, none⟩ = false := frozen_of_heap hrr
         have f1 : wr.frozen? ⟨w.heap.size + 1, 1, none⟩ = false := frozen_of_heap hrr
         have f2 : wr.frozen? ⟨w.heap.size + 1, 2, none⟩ = false := frozen_of_heap hrr
         have f3 : wr.frozen? ⟨w.heap.size + 1, 3, none⟩ = false := frozen_of_heap hrr
         have HRR := Lib.hid hrr
         clear hrr hgk
         go_wp2
         have hw1s := HRES.out
         have hlt1 := (Array.getElem?_eq_some_iff.1 hw1s).1
         have hwc := HB.out.size
         refine bodyPost_ret (v := .agg #[.slice al g.lines.length cl, .slice ae g.edges.length ce, .slice a2 m2 c2, .slice av (livL (g.lines.take k)).length cv]) (by simp [results, Tryz.results36, go_sem, q0, q1, q2, q3]) rfl ?_
         refine ⟨_, _, _, _, rfl, ⟨⟨_, _, _, rfl⟩, ⟨_, _, _, rfl⟩, ?_, ?_⟩, ?_⟩
         · refine ((HR.out.stays (w' := wr) (fun b hb hb' => HGR.out.block b hb' (fun e => hb.1 (Option.some.inj e)))).stays (fun b hb hb' => ?_)).slOf
           have hb2 : b ≠ w.heap.size + 1 := by have := hb.2; omega
           rw [Below.heap_setCell _ _ _ _ hb2, Below.heap_setCell _ _ _ _ hb2, Below.heap_setCell _ _ _ _ hb2, Below.heap_setCell _ _ _ _ hb2]
         · unfold Gr.living
           rw [if_pos HCK.out, show ints (nats (livL g.lines)) = ints (nats (livL (g.lines.take k))) by rw [HK.out]]
           have hne : ∀ b, (Value.slice av (livL (g.lines.take k)).length cv).ownBlock = some b → b ≠ w.heap.size + 1 := fun b e => by have := (HOW.out.lt b e).1; omega
           exact ((((ownsRow_slAt HOW.out).setCell (p := ⟨w.heap.size + 1, 0, none⟩) (fun e => absurd rfl (hne (w.heap.size + 1) e)) _).setCell (p := ⟨w.heap.size + 1, 1, none⟩) (fun e => absurd rfl (hne (w.heap.size + 1) e)) _).setCell (p := ⟨w.heap.size + 1, 2, none⟩) (fun e => absurd rfl (hne (w.heap.size + 1) e)) _).setCell (p := ⟨w.heap.size + 1, 3, none⟩) (fun e => absurd rfl (hne (w.heap.size + 1) e)) _
         · exact (((hBr.setCell (by simp) _).setCell (by simp) _).setCell (by simp) _).setCell (by simp) _
 · have h1 : (g.check == 0) = false := by simp [hck]
   have h2 : (g.check != 0) = true := by simp [hck]
   have HCK := Lib.hid hck
   have HG := Lib.hid hg
   clear hck hg
   go_enter Tryz.func36, Tryz.ntmps36
   go_wp2_with fail
   refine (Check_any _ _ g _ (HG.out.below (((Below.refl _ _).alloc (Nat.le_refl _) _).alloc (by simp) _))).mono ?_
   rintro e w1 ⟨rfl, hb1⟩
   have hs := hb1.size
   simp at hs
   have q0 : w1.cell? ⟨w.heap.size + 1, 0, none⟩ = some (.slice none 0 0) := below_cell hb1 (by simp [go_sem])
   have q1 : w1.cell? ⟨w.heap.size + 1, 1, none⟩ = some (.slice none 0 0) := below_cell hb1 (by simp [go_sem])
   have q2 : w1.cell? ⟨w.heap.size + 1, 2, none⟩ = some (.slice none 0 0) := below_cell hb1 (by simp [go_sem])
   have q3 : w1.cell? ⟨w.heap.size + 1, 3, none⟩ = some (.slice none 0 0) := below_cell hb1 (by simp [go_sem])
   have f0 : w1.frozen? ⟨w.heap.size + 1, 0, none⟩ = false := (hb1.frozen (by simp)).trans (by simp [go_sem])
   have f1 : w1.frozen? ⟨w.heap.size + 1, 1, none⟩ = false := (hb1.frozen (by simp)).trans (by simp [go_sem])
   have f2 : w1.frozen? ⟨w.heap.size + 1, 2, none⟩ = false := (hb1.frozen (by simp)).trans (by simp [go_sem])
   have f3 : w1.frozen? ⟨w.heap.size + 1, 3, none⟩ = false := (hb1.frozen (by simp)).trans (by simp [go_sem])
   have hbw1 : Below w.heap.size w w1 := (((Below.refl _ _).alloc (Nat.le_refl _) _).alloc (by simp) _).trans (hb1.mono (by simp; omega))
   clear hb1
   go_wp2_with fail
   refine bodyPost_ret (v := .agg #[.slice none 0 0, .slice none 0 0, .slice none 0 0, .slice none 0 0]) (by simp [results, Tryz.results36, go_sem, q0, q1, q2, q3]) rfl ?_
   refine ⟨_, _, _, _, rfl, ⟨⟨none, 0, 0, rfl⟩, ⟨none, 0, 0, rfl⟩, ?_, ?_⟩, ?_⟩
   · unfold Gr.reach
     rw [if_neg HCK.out]
     exact ⟨[], SlAt.nil _, rfl, by simp⟩
   · unfold Gr.living
     rw [if_neg HCK.out]
     exact SlAt.nil _
   · exact (((hbw1.setCell (by simp) _).setCell (by simp) _).setCell (by simp) _).setCell (by simp) _
end Go.Proofs.Lg
