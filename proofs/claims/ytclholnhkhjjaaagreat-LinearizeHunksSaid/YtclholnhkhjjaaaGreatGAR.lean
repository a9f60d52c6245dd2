/-
  Part GAR of this claim's proof. Joined by merge.py from the texts of wip/tpl.
-/
import Derived.Test.YtclholnhkhjjaaaGreatL2
import Derived.Test.YtclholnhkhjjaaaGreatGAQ
import Derived.Test.YtclholnhkhjjaaaGreatGAL
set_option linter.unusedVariables false
set_option linter.unusedSimpArgs false
set_option linter.unnecessarySimpa false
namespace Go.Proofs.Lg
open Go Go.RowKit
set_option maxHeartbeats 16000000 in
set_option maxRecDepth 100000 in
theorem refCheck_any (vl ve : Value) (g : Gr) (w : World) (hg : GrAt w vl ve g) :
   Calls Tryz.prog 38 #[.agg #[vl, ve]] w fun e w' => e = .returned (.int .i64 g.check) ∧ Below w.heap.size w w' := by
 obtain ⟨⟨al, cl, rfl, hl1, hl2, hl3⟩, ⟨ae, ce, rfl, he1, he2, he3⟩, hokl, hoke, hfl, hfe⟩ := hg
 simp only [List.length_map] at *
 go_enter Tryz.func38, Tryz.ntmps38
 go_wp2
 go_loopw [4] (fun i wr => ∃ k : Nat, i = .int .i64 ((k : Int) + 1) ∧ (k = 0 ∨ k < g.lines.length) ∧ linesOk g.lines = linesOk (g.lines.drop k) ∧ Below (w.heap.size + 1) (w.alloc (.cells #[.slice al g.lines.length cl, .slice ae g.edges.length ce] 25)) wr) (fun i _ => g.lines.length + 1 - (intOf i).toNat)
 case atStart => exact ⟨0, by simp, .inl rfl, rfl, Below.refl _ _⟩
 case round =>
   obtain ⟨k, rfl, hk, hor, hB⟩ := hrel
   have HO := Lib.hid hor
   clear hor
   have hB0 : Below w.heap.size w wr := ((Below.refl _ _).alloc (Nat.le_refl _) _).trans (hB.mono (by omega))
   have hbox : wr.cell? ⟨w.heap.size, 0, none⟩ = some (.slice al g.lines.length cl) := (hB.cell (by simp)).trans (by simp [go_sem])
   have hbox1 : wr.cell? ⟨w.heap.size, 1, none⟩ = some (.slice ae g.edges.length ce) := (hB.cell (by simp)).trans (by simp [go_sem])
   by_cases hlt : k + 1 < g.lines.length
   · obtain ⟨b, off, rfl, hc⟩ := hl3 (by intro e; rw [List.map_eq_nil_iff] at e; simp [e] at hlt)
     have r1 := rangeAt_below hB0 (Vtx.id_range (hokl g.lines[k] (List.getElem_mem _)).1 (hc k _ (by simp; exact ⟨_, List.getElem?_eq_getElem (by omega), rfl⟩)))
     have r2 := rangeAt_below hB0 (Vtx.id_range (hokl g.lines[k + 1] (List.getElem_mem _)).1 (hc (k + 1) _ (by simp; exact ⟨_, List.getElem?_eq_getElem (by omega), rfl⟩)))
     have o1 := hokl g.lines[k] (List.getElem_mem _)
     have o2 := hokl g.lines[k + 1] (List.getElem_mem _)
     have hd : g.lines.drop k = g.lines[k] :: g.lines[k + 1] :: g.lines.drop (k + 2) := by
       rw [List.drop_eq_getElem_cons (by omega), List.drop_eq_getElem_cons (by omega)]
     have hd2 : g.lines.drop (k + 1) = g.lines[k + 1] :: g.lines.drop (k + 2) := List.drop_eq_getElem_cons (by omega)
     generalize g.lines[k] = x at r1 o1 hd
     generalize g.lines[k + 1] = y at r2 o2 hd hd2
     have HD := Lib.hid hd
     have HD2 := Lib.hid hd2
     clear hd hd2 hc hl3 he3 hokl hoke
     have hu := Tryz.underlying38
     have hi : (Tryz.prog.info? 38).map (·.size) = some (idCells x.id x.n).toList.length := by rw [size_Id]; simp [idCells, o1.1]
     have hi' : (Tryz.prog.info? 38).map (·.size) = some (idCells y.id y.n).toList.length := by rw [size_Id]; simp [idCells, o2.1]
     have b1 : (0 : Int) ≤ (k : Int) := by omega
     have b2 : (k : Int) < g.lines.length := by omega
     have b3 : (0 : Int) ≤ (k : Int) + 1 := by omega
     have b4 : (k : Int) + 1 < g.lines.length := by omega
     have hne : Nonempty (Cls (Keep wr)) := ⟨⟨wr, Keep.refl wr⟩⟩
     have cbox : ∀ p : Cls (Keep wr), p.w.cell? ⟨w.heap.size, 0, none⟩ = some (.slice (some ⟨b, off, none⟩) g.lines.length cl) := fun p => below_cell p.h hbox
     have q1 : ∀ p : Cls (Keep wr), p.w.rangeAt b (off + k * 35) (idCells x.id x.n).toList := fun p => rangeAt_below p.h r1
     have q2 : ∀ p : Cls (Keep wr), p.w.rangeAt b (off + (k + 1) * 35) (idCells y.id y.n).toList := fun p => rangeAt_below p.h r2
     by_cases hcmp : 0 ≤ cmpId x.id x.n y.id y.n
     · have HC := Lib.hid hcmp
       have hcb : decide (0 ≤ cmpId x.id x.n y.id y.n) = true := by simp [hcmp]
       clear hcmp
       go_wp2
       refine wp_region_cls (Keep wr) (by kernel_rfl) (by kernel_rfl) (Keep.drew wr) ?_
       repeat (first | (refine wpQuiet_load_mid rfl _ _ rfl _ _ rfl _ _ q1 hu rfl hi ?_; simp only [Act.put, List.setIfInBounds_toArray, List.set_cons_zero, List.set_cons_succ]) | (refine wpQuiet_load_mid rfl _ _ rfl _ _ rfl _ _ q2 hu rfl hi' ?_; simp only [Act.put, List.setIfInBounds_toArray, List.set_cons_zero, List.set_cons_succ]) | go_big_quiet_step ((go_at_call 32; refine Calls.cls (refCompare_any x.id y.id x.n y.n o1.2.1 o2.2.1 o1.1 o2.1 _))))
       refine wpQuiet_nil ?_
       rintro w1 ⟨⟨_, hw1⟩, rfl⟩
       go_wp2
       go_ret
       refine ⟨ret_int ?_, hB0.trans (Below.mono hw1 hB0.size)⟩
       unfold Gr.check
       rw [HO.out, HD.out, linesOk_cons]
       have : ¬ x.cmp y < 0 := by unfold Vtx.cmp; have := HC.out; omega
       simp [this]
     · have HC := Lib.hid hcmp
       have hcb : decide (0 ≤ cmpId x.id x.n y.id y.n) = false := by simp; omega
       clear hcmp
       go_wp2
       refine wp_region_cls (Keep wr) (by kernel_rfl) (by kernel_rfl) (Keep.drew wr) ?_
       repeat (first | (refine wpQuiet_load_mid rfl _ _ rfl _ _ rfl _ _ q1 hu rfl hi ?_; simp only [Act.put, List.setIfInBounds_toArray, List.set_cons_zero, List.set_cons_succ]) | (refine wpQuiet_load_mid rfl _ _ rfl _ _ rfl _ _ q2 hu rfl hi' ?_; simp only [Act.put, List.setIfInBounds_toArray, List.set_cons_zero, List.set_cons_succ]) | go_big_quiet_step ((go_at_call 32; refine Calls.cls (refCompare_any x.id y.id x.n y.n o1.2.1 o2.2.1 o1.1 o2.1 _))))
       refine wpQuiet_nil ?_
       rintro w1 ⟨⟨_, hw1⟩, rfl⟩
       go_wp2
       go_roundw
       case rel =>
         refine ⟨k + 1, by go_num, .inr (by omega), ?_, hB.trans (Below.mono hw1 (by have := hB.size; simp at this; omega))⟩
         have : x.cmp y < 0 := by unfold Vtx.cmp; have := HC.out; omega
         rw [HO.out, HD.out, HD2.out, linesOk_cons]
         simp [this]
       case measure => simp [intOf]; omega
   · have HL : Hid (linesOk g.lines = true) := by
       show linesOk g.lines = true
       rw [HO.out]
       rcases hk with rfl | hk
       · match hgl : g.lines with
         | [] => rfl
         | [x] => rfl
         | x :: y :: l => rw [hgl] at hlt; simp at hlt
       · rw [List.drop_eq_getElem_cons hk, List.drop_eq_nil_of_le (by omega)]; rfl
     clear hl3 hk HO hokl hB
     obtain ⟨wo, rfl⟩ : ∃ wo : World, wo = wr := ⟨_, rfl⟩
     have hda : decide ((k : Int) + 1 < (g.lines.length : Int)) = false := by simp; omega
     clear hlt
     go_wp2
     go_loopw [5] (fun i w2 => ∃ k : Nat, k ≤ g.edges.length ∧ i = .int .i64 k ∧ edgesErr g.lines.length none g.edges = edgesErr g.lines.length (prevEdge g.edges k) (g.edges.drop k) ∧ Keep wo w2) (fun i _ => g.edges.length - (intOf i).toNat)
     case atStart => exact ⟨0, Nat.zero_le _, rfl, rfl, Keep.refl wo⟩
     case round =>
       obtain ⟨k, hk, rfl, hor, hK⟩ := hrel
       have HO := Lib.hid hor
       clear hor
       have HB2 : Hid (Below w.heap.size w wr) := hB0.trans (Below.mono hK hB0.size)
       have hb2 := below_cell hK hbox
       have hb3 := below_cell hK hbox1
       have hsz := cell_lt hb2
       by_cases hlt : k < g.edges.length
       · obtain ⟨b, off, rfl, hc⟩ := he3 (by intro e; rw [List.map_eq_nil_iff] at e; simp [e] at hlt)
         obtain ⟨r1, r2⟩ := edge_range (e := g.edges[k]) (rangeAt_below HB2.out (hc k _ (by rw [List.getElem?_map, List.getElem?_eq_getElem hlt]; rfl)))
         have o1 := hoke g.edges[k] (List.getElem_mem _)
         have hd : g.edges.drop k = g.edges[k] :: g.edges.drop (k + 1) := List.drop_eq_getElem_cons hlt
         have hp : prevEdge g.edges (k + 1) = some g.edges[k] := List.getElem?_eq_getElem hlt
         generalize g.edges[k] = e at r1 r2 o1 hd hp
         obtain ⟨e1, e2⟩ := e
         obtain ⟨o1, o2⟩ := o1
         dsimp only at r1 r2 o1 o2
         have HD := Lib.hid hd
         have HP := Lib.hid hp
         clear hd hp he3 hoke hbox hbox1
         have bl := cell_lt r1
         by_cases a1 : e1 < -1
         · have HA : Hid (outB g.lines.length e1 = true) := by show _ = _; simp [outB, a1]
           have d1 : decide (e1 < -1) = true := by simp [a1]
           clear a1 hc
           go_wp2
           go_ret
           refine ⟨ret_int ?_, HB2.out.alloc HB2.out.size _⟩
           unfold Gr.check
           rw [HL.out, HO.out, HD.out]
           cases prevEdge g.edges k <;> simp [edgesErr, HA.out]
         by_cases a2 : (g.lines.length : Int) ≤ e1
         · have HA : Hid (outB g.lines.length e1 = true) := by show _ = _; simp [outB, a2]
           have d1 : decide (e1 < -1) = false := by simp; omega
           have d2 : decide ((g.lines.length : Int) ≤ e1) = true := by simp [a2]
           clear a1 a2 hc
           go_wp2
           go_ret
           refine ⟨ret_int ?_, HB2.out.alloc HB2.out.size _⟩
           unfold Gr.check
           rw [HL.out, HO.out, HD.out]
           cases prevEdge g.edges k <;> simp [edgesErr, HA.out]
         by_cases a3 : e2 < -1
         · have HA : Hid (outB g.lines.length e2 = true) := by show _ = _; simp [outB, a3]
           have d1 : decide (e1 < -1) = false := by simp; omega
           have d2 : decide ((g.lines.length : Int) ≤ e1) = false := by simp; omega
           have d3 : decide (e2 < -1) = true := by simp [a3]
           clear a1 a2 a3 hc
           go_wp2
           go_ret
           refine ⟨ret_int ?_, HB2.out.alloc HB2.out.size _⟩
           unfold Gr.check
           rw [HL.out, HO.out, HD.out]
           cases prevEdge g.edges k <;> simp [edgesErr, HA.out]
         by_cases a4 : (g.lines.length : Int) ≤ e2
         · have HA : Hid (outB g.lines.length e2 = true) := by show _ = _; simp [outB, a4]
           have d1 : decide (e1 < -1) = false := by simp; omega
           have d2 : decide ((g.lines.length : Int) ≤ e1) = false := by simp; omega
           have d3 : decide (e2 < -1) = false := by simp; omega
           have d4 : decide ((g.lines.length : Int) ≤ e2) = true := by simp [a4]
           clear a1 a2 a3 a4 hc
           go_wp2
           go_ret
           refine ⟨ret_int ?_, HB2.out.alloc HB2.out.size _⟩
           unfold Gr.check
           rw [HL.out, HO.out, HD.out]
           cases prevEdge g.edges k <;> simp [edgesErr, HA.out]
         have HA : Hid (outB g.lines.length e1 = false) := by show _ = _; simp [outB]; omega
         have HA2 : Hid (outB g.lines.length e2 = false) := by show _ = _; simp [outB]; omega
         have d1 : decide (e1 < -1) = false := by simp; omega
         have d2 : decide ((g.lines.length : Int) ≤ e1) = false := by simp; omega
         have d3 : decide (e2 < -1) = false := by simp; omega
         have d4 : decide ((g.lines.length : Int) ≤ e2) = false := by simp; omega
         clear a1 a2 a3 a4
         by_cases heq : e1 = e2
         · have h1 : (e1 == e2) = true := by simp [heq]
           have HE := Lib.hid heq
           clear heq
           go_wp2
           go_ret
           refine ⟨ret_int ?_, HB2.out.alloc HB2.out.size _⟩
           unfold Gr.check
           rw [HL.out, HO.out, HD.out]
           have ha2 := HA2.out
           cases prevEdge g.edges k <;> simp [edgesErr, ha2, HE.out]
         · have h1 : (e1 == e2) = false := by simp [heq]
           have HE := Lib.hid heq
           clear heq
           by_cases hk0 : k = 0
           · have hd0 : decide ((0 : Int) < (k : Int)) = false := by simp [hk0]
             have hd1 : decide (0 < k) = false := by simp [hk0]
             have HZ := Lib.hid hk0
             clear hk0
             go_wp2
             refine wp_region_cls (Keep (wr.alloc (.cells #[.int .i64 e1, .int .i64 e2] 74))) (by kernel_rfl) (by kernel_rfl) (Keep.drew _) ?_
             have hne : Nonempty (Cls (Keep (wr.alloc (.cells #[.int .i64 e1, .int .i64 e2] 74)))) := ⟨⟨_, Keep.refl _⟩⟩
             repeat (go_big_quiet_step (fail))
             refine wpQuiet_nil ?_
             rintro w1 ⟨⟨_, hw1⟩, rfl⟩
             go_wp2
             go_roundw
             case rel =>
               refine ⟨k + 1, by omega, by go_num, ?_, hK.trans (Keep.trans ((Below.refl _ _).alloc (Nat.le_refl _) _) hw1)⟩
               rw [HO.out, HD.out, HP.out, HZ.out]
               simp [prevEdge, edgesErr, HA.out, HA2.out, HE.out]
             case measure => simp [intOf]; omega
           · have hd0 : decide ((0 : Int) < (k : Int)) = true := by simp; omega
             have hd1 : decide (0 < k) = true := by simp; omega
             have hk1 : 0 < k := by omega
             have hk2 : (0 : Int) ≤ (k : Int) - 1 := by omega
             have hk3 : (k : Int) - 1 < g.edges.length := by omega
             have hj : ((k : Int) - 1).toNat < g.edges.length := by omega
             obtain ⟨r3, r4⟩ := edge_range (e := g.edges[((k : Int) - 1).toNat]) (rangeAt_below HB2.out (hc _ _ (by rw [List.getElem?_map, List.getElem?_eq_getElem hj]; rfl)))
             have hpv : prevEdge g.edges k = some g.edges[((k : Int) - 1).toNat] := by
               obtain ⟨j, rfl⟩ : ∃ j, k = j + 1 := ⟨k - 1, by omega⟩
               have : ((j + 1 : Nat) - 1 : Int).toNat = j := by omega
               simp only [prevEdge, this]
               exact List.getElem?_eq_getElem (by omega)
             generalize g.edges[((k : Int) - 1).toNat] = p at r3 r4 hpv
             obtain ⟨p1, p2⟩ := p
             dsimp only at r3 r4
             have r3' := r3
             have r4' := r4
             rw [show ((k : Int) - 1).toNat = k - 1 by omega] at r3' r4'
             have HPV := Lib.hid hpv
             clear hpv hk0 hj hc
             have hle := lessE_cmp (p1, p2) (e1, e2)
             by_cases hcmp : cmpEdge (p1, p2) (e1, e2) < 0
             · have hcb : lessE (p1, p2) (e1, e2) = true := by rw [hle]; simpa using hcmp
               have HC := Lib.hid hcmp
               clear hcmp hle
               go_wp2
               refine wp_region_cls (Keep (wr.alloc (.cells #[.int .i64 e1, .int .i64 e2] 74))) (by kernel_rfl) (by kernel_rfl) (Keep.drew _) ?_
               have hne : Nonempty (Cls (Keep (wr.alloc (.cells #[.int .i64 e1, .int .i64 e2] 74)))) := ⟨⟨_, Keep.refl _⟩⟩
               have c1 : ∀ p : Cls (Keep (wr.alloc (.cells #[.int .i64 e1, .int .i64 e2] 74))), p.w.cell? ⟨w.heap.size, 1, none⟩ = some (.slice (some ⟨b, off, none⟩) g.edges.length ce) := fun p => below_cell p.h (alloc_cell hb3 _)
               have c2 : ∀ p : Cls (Keep (wr.alloc (.cells #[.int .i64 e1, .int .i64 e2] 74))), p.w.cell? ⟨b, off + ((k : Int) - 1).toNat * 2, none⟩ = some (.int .i64 p1) := fun p => below_cell p.h (alloc_cell r3 _)
               have c2' : ∀ p : Cls (Keep (wr.alloc (.cells #[.int .i64 e1, .int .i64 e2] 74))), p.w.cell? ⟨b, off + (k - 1) * 2, none⟩ = some (.int .i64 p1) := fun p => below_cell p.h (alloc_cell r3' _)
               have c3 : ∀ p : Cls (Keep (wr.alloc (.cells #[.int .i64 e1, .int .i64 e2] 74))), p.w.cell? ⟨b, off + ((k : Int) - 1).toNat * 2 + 1, none⟩ = some (.int .i64 p2) := fun p => below_cell p.h (alloc_cell r4 _)
               have c3' : ∀ p : Cls (Keep (wr.alloc (.cells #[.int .i64 e1, .int .i64 e2] 74))), p.w.cell? ⟨b, off + (k - 1) * 2 + 1, none⟩ = some (.int .i64 p2) := fun p => below_cell p.h (alloc_cell r4' _)
               have c4 : ∀ p : Cls (Keep (wr.alloc (.cells #[.int .i64 e1, .int .i64 e2] 74))), p.w.cell? ⟨wr.heap.size, 0, none⟩ = some (.int .i64 e1) := fun p => below_cell p.h (by simp [go_sem])
               have c5 : ∀ p : Cls (Keep (wr.alloc (.cells #[.int .i64 e1, .int .i64 e2] 74))), p.w.cell? ⟨wr.heap.size, 1, none⟩ = some (.int .i64 e2) := fun p => below_cell p.h (by simp [go_sem])
               repeat (go_big_quiet_step ((go_at_call 76; refine Calls.cls (refLess_any p1 p2 e1 e2 _))))
               refine wpQuiet_nil ?_
               rintro w1 ⟨⟨_, hw1⟩, rfl⟩
               go_wp2
               go_roundw
               case rel =>
                 refine ⟨k + 1, by omega, by go_num, ?_, hK.trans (Keep.trans ((Below.refl _ _).alloc (Nat.le_refl _) _) hw1)⟩
                 rw [HO.out, HD.out, HP.out, HPV.out]
                 simp [edgesErr, HA.out, HA2.out, HE.out]
                 intro h; have := HC.out; omega
               case measure => simp [intOf]; omega
             · have hcb : lessE (p1, p2) (e1, e2) = false := by rw [hle]; simpa using hcmp
               have HC := Lib.hid hcmp
               clear hcmp hle
               go_wp2
               refine wp_region_cls (Keep (wr.alloc (.cells #[.int .i64 e1, .int .i64 e2] 74))) (by kernel_rfl) (by kernel_rfl) (Keep.drew _) ?_
               have hne : Nonempty (Cls (Keep (wr.alloc (.cells #[.int .i64 e1, .int .i64 e2] 74)))) := ⟨⟨_, Keep.refl _⟩⟩
               have c1 : ∀ p : Cls (Keep (wr.alloc (.cells #[.int .i64 e1, .int .i64 e2] 74))), p.w.cell? ⟨w.heap.size, 1, none⟩ = some (.slice (some ⟨b, off, none⟩) g.edges.length ce) := fun p => below_cell p.h (alloc_cell hb3 _)
               have c2 : ∀ p : Cls (Keep (wr.alloc (.cells #[.int .i64 e1, .int .i64 e2] 74))), p.w.cell? ⟨b, off + ((k : Int) - 1).toNat * 2, none⟩ = some (.int .i64 p1) := fun p => below_cell p.h (alloc_cell r3 _)
               have c2' : ∀ p : Cls (Keep (wr.alloc (.cells #[.int .i64 e1, .int .i64 e2] 74))), p.w.cell? ⟨b, off + (k - 1) * 2, none⟩ = some (.int .i64 p1) := fun p => below_cell p.h (alloc_cell r3' _)
               have c3 : ∀ p : Cls (Keep (wr.alloc (.cells #[.int .i64 e1, .int .i64 e2] 74))), p.w.cell? ⟨b, off + ((k : Int) - 1).toNat * 2 + 1, none⟩ = some (.int .i64 p2) := fun p => below_cell p.h (alloc_cell r4 _)
               have c3' : ∀ p : Cls (Keep (wr.alloc (.cells #[.int .i64 e1, .int .i64 e2] 74))), p.w.cell? ⟨b, off + (k - 1) * 2 + 1, none⟩ = some (.int .i64 p2) := fun p => below_cell p.h (alloc_cell r4' _)
               have c4 : ∀ p : Cls (Keep (wr.alloc (.cells #[.int .i64 e1, .int .i64 e2] 74))), p.w.cell? ⟨wr.heap.size, 0, none⟩ = some (.int .i64 e1) := fun p => below_cell p.h (by simp [go_sem])
               have c5 : ∀ p : Cls (Keep (wr.alloc (.cells #[.int .i64 e1, .int .i64 e2] 74))), p.w.cell? ⟨wr.heap.size, 1, none⟩ = some (.int .i64 e2) := fun p => below_cell p.h (by simp [go_sem])
               repeat (go_big_quiet_step ((go_at_call 76; refine Calls.cls (refLess_any p1 p2 e1 e2 _))))
               refine wpQuiet_nil ?_
               rintro w1 ⟨⟨_, hw1⟩, rfl⟩
               go_wp2
               go_ret
               refine ⟨ret_int ?_, (HB2.out.alloc HB2.out.size _).trans (Below.mono hw1 (by have := HB2.out.size; simp; omega))⟩
               unfold Gr.check
               rw [HL.out, HO.out, HD.out, HPV.out]
               have hc0 : 0 ≤ cmpEdge (p1, p2) (e1, e2) := by have := HC.out; omega
               simp [edgesErr, HA.out, HA2.out, HE.out, hc0]
       · have HK := Lib.hid (show k = g.edges.length by omega)
         clear he3 hbox hbox1 hoke
         go_wp2
         go_ret
         refine ⟨ret_int ?_, HB2.out⟩
         unfold Gr.check
         rw [HL.out, HO.out, HK.out, List.drop_length]
         cases prevEdge g.edges g.edges.length <;> rfl
end Go.Proofs.Lg

namespace Go.Proofs.Lg
open Go Go.Ab Go.Bb Go.RowKit Go.Proofs.Lh
theorem RD_sc {I : Nat → Nat} {w : World} {u c : Value} (h : RD I w u (.sc c)) : u = c := by cases h; rfl
theorem RDs_sc {I : Nat → Nat} {w : World} {us cs : List Value} (h : RDs I w us (cs.map .sc)) : us = cs := by
 obtain ⟨h1, _, h3⟩ := h
 rw [List.length_map] at h1
 refine List.ext_getElem? fun i => ?_
 by_cases hi : i < us.length
 · have e1 : us[i]? = some us[i] := List.getElem?_eq_getElem hi
   have e2 : cs[i]? = some cs[i] := List.getElem?_eq_getElem (by omega)
   have := RD_sc (h3 i us[i] (.sc cs[i]) e1 (by rw [List.getElem?_map, e2]; rfl))
   rw [e1, e2, this]
 · rw [List.getElem?_eq_none (by omega), List.getElem?_eq_none (by omega)]
theorem flatten_map_sc (xss : List (List Value)) : (xss.map fun xs => xs.map D.sc).flatten = xss.flatten.map D.sc := by
 rw [List.map_flatten]
theorem SlN_of_RD {I : Nat → Nat} {w : World} {v : Value} {sz : Nat} {xss : List (List Value)} (h : RD I w v (.sl sz (xss.map fun xs => xs.map .sc))) : SlN w v sz xss := by
 obtain ⟨a, c, us, rfl, h2, h3, h4, h5, h6⟩ := h.sl_inv
 rw [List.length_map] at h3
 rw [flatten_map_sc] at h5
 have hus := RDs_sc h5
 subst hus
 have hr : ∀ r ∈ xss, r.length = sz := fun r hr => by
   have := h2 (r.map .sc) (List.mem_map.2 ⟨r, hr, rfl⟩)
   rwa [List.length_map] at this
 refine ⟨a, c, by rw [List.length_map], h3, h4, fun hne => ?_⟩
 obtain ⟨b, off, ha, hc⟩ := h6 (by simpa using hne)
 refine ⟨b, off, ha, fun i u hu j x hx => ?_⟩
 have hrow := flatten_row xss hr i u hu
 have hj : j < sz := by rw [← hr u (List.mem_of_getElem? hu)]; exact (List.getElem?_eq_some_iff.1 hx).1
 have hget : xss.flatten[i * sz + j]? = some x := by
   rw [← hrow, List.getElem?_take, if_pos hj, List.getElem?_drop] at hx
   exact hx
 have := (hc (i * sz + j) x hget).2
 rw [← this, Nat.add_assoc]
theorem RD_of_SlN {w : World} {v : Value} {sz : Nat} {xss : List (List Value)} (h : SlN w v sz xss) (hr : ∀ r ∈ xss, r.length = sz ∧ ∀ x ∈ r, x.oneCell' = true) (hsz : 0 < sz) : RD (Go.Bb.cellsIn w) w v (.sl sz (xss.map fun xs => xs.map .sc)) := by
 obtain ⟨a, c, rfl, h3, h4, h6⟩ := h
 have h2 : ∀ r ∈ xss, r.length = sz := fun r h => (hr r h).1
 refine RD.sl_mk (us := xss.flatten) (by simp) (fun r h => ?_) h3 h4 ?_ fun hne => ?_
 · obtain ⟨x, hx, rfl⟩ := List.mem_map.1 h
   rw [List.length_map]; exact h2 x hx
 · rw [flatten_map_sc]
   refine ⟨by rw [List.length_map], fun u hu => ?_, fun i u d hu hd => ?_⟩
   · obtain ⟨r, hr1, hr2⟩ := List.mem_flatten.1 hu
     exact (hr r hr1).2 u hr2
   · rw [List.getElem?_map, hu] at hd
     obtain rfl := Option.some.inj hd
     exact .sc u
 · obtain ⟨b, off, ha, hc⟩ := h6 (by simpa using hne)
   refine ⟨b, off, ha, fun i u hu => ?_⟩
   have hi : i < xss.length * sz := by rw [← flatten_len xss h2]; exact (List.getElem?_eq_some_iff.1 hu).1
   have hq : i / sz < xss.length := Nat.div_lt_of_lt_mul (by rw [Nat.mul_comm]; exact hi)
   have hrow := flatten_row xss h2 (i / sz) xss[i / sz] (List.getElem?_eq_getElem hq)
   have hm : i % sz < sz := Nat.mod_lt _ hsz
   have hdm : i / sz * sz + i % sz = i := by rw [Nat.mul_comm]; exact Nat.div_add_mod i sz
   have hx : xss[i / sz][i % sz]? = some u := by
     rw [← hrow, List.getElem?_take, if_pos hm, List.getElem?_drop, hdm]; exact hu
   have := hc (i / sz) _ (List.getElem?_eq_getElem hq) (i % sz) u hx
   rw [Nat.add_assoc, hdm] at this
   exact ⟨lt_cellsIn this, this⟩
structure GrOk (g : Gr) : Prop where
 okl : ∀ x ∈ g.lines, x.ok
 oke : ∀ e ∈ g.edges, I64 e.1 ∧ I64 e.2
 few : g.lines.length ≤ 1000000
 fewe : g.edges.length ≤ 1000000
theorem dGraph_inv {I : Nat → Nat} {w : World} {v : Value} {g : Gr} (hg : GrOk g) (h : RD I w v (dGraph g)) : ∃ vl ve, v = .agg #[vl, ve] ∧ GrAt w vl ve g := by
 unfold dGraph at h
 cases h with
 | agg us ds h1 h2 h3 =>
   match us, h1 with
   | [vl, ve], _ =>
     have e1 := h3 0 vl _ rfl rfl
     have e2 := h3 1 ve _ rfl rfl
     refine ⟨vl, ve, rfl, ⟨SlN_of_RD (I := I) (xss := g.lines.map Vtx.cells) ?_, SlN_of_RD (I := I) (xss := g.edges.map edgeCells) ?_, hg.okl, hg.oke, hg.few, hg.fewe⟩⟩
     · rw [List.map_map]; exact e1
     · rw [List.map_map]; exact e2
theorem enters_fn {P : Program} {f : FuncId} {fn : Func} {c : Code} (hfn : P.funcs[f]? = some fn) (hb : fn.body = some c) (hn : (fn.name == "runtime.NumGoroutine") = false) : Enters P f := fun args w => by
 have hn' : fn.name ≠ "runtime.NumGoroutine" := by simpa using hn
 simp [callFunc, hfn, hn', hb, mark]
theorem refCheck_fn {g : Gr} (hg : GrOk g) : AFn Tryz.prog 38 [dGraph g] (.sc (.int .i64 g.check)) := by
 refine ⟨enters_fn Tryz.func38 rfl (by rfl), fun I w vs hl hv => ?_⟩
 match vs, hl with
 | [v], _ =>
   obtain ⟨vl, ve, rfl, hat⟩ := dGraph_inv hg (hv 0 v _ rfl rfl)
   refine (refCheck_any vl ve g w hat).mono fun e w' h => ?_
   obtain ⟨rfl, hb⟩ := h
   exact ⟨_, rfl, .sc _, hb⟩
end Go.Proofs.Lg

namespace Go.Proofs.Lg
end Go.Proofs.Lg

namespace Go.Proofs.Lg
open Go Go.Ab Go.Bb Go.RowKit Go.Proofs.Lh
def rblk (r : List Bool) : AObj := .vec 4 1 (r.map fun b => .d (.sc (.bool b)))
def hands (n m : Nat) : List AV := (List.range m).map fun i => .vec (2 + 2 * i) n 1
structure Tab (A : AObj) (n m : Nat) (R : List (List Bool)) (s : List AObj) : Prop where
 a : s[0]? = some A
 v : s[1]? = some (.vec 140 1 (hands n m))
 r : ∀ (i : Nat) (r : List Bool), R[i]? = some r → s[2 + 2 * i]? = some (rblk r)
 len : R.length = m
 row : ∀ r ∈ R, r.length = n
theorem hands_len (n m : Nat) : (hands n m).length = m := by simp [hands]
theorem Tab.lt {A : AObj} {n m : Nat} {R : List (List Bool)} {s : List AObj} (h : Tab A n m R s) : 1 < s.length := (List.getElem?_eq_some_iff.1 h.v).1
theorem Tab.app {A : AObj} {n m : Nat} {R : List (List Bool)} {s : List AObj} (h : Tab A n m R s) (K : List AObj) : Tab A n m R (s ++ K) where
 a := by rw [List.getElem?_append_left (by have := h.lt; omega)]; exact h.a
 v := by rw [List.getElem?_append_left h.lt]; exact h.v
 r i r hr := by rw [List.getElem?_append_left (List.getElem?_eq_some_iff.1 (h.r i r hr)).1]; exact h.r i r hr
 len := h.len
 row := h.row
theorem Tab.row_get {A : AObj} {n m : Nat} {R : List (List Bool)} {s : List AObj} (h : Tab A n m R s) {i : Nat} (hi : i < m) : ∃ r, R[i]? = some r ∧ r.length = n ∧ s[2 + 2 * i]? = some (rblk r) ∧ R.getD i [] = r := by
 have hil : i < R.length := by rw [h.len]; exact hi
 have hr : R[i]? = some R[i] := List.getElem?_eq_getElem hil
 exact ⟨_, hr, h.row _ (List.getElem_mem _), h.r i _ hr, by simp [List.getD_eq_getElem?_getD, hr]⟩
theorem Tab.sq {A : AObj} {n : Nat} {R : List (List Bool)} {s : List AObj} (h : Tab A n n R s) : Sq n R := ⟨h.len, h.row⟩
theorem Tab.put {A : AObj} {n : Nat} {R : List (List Bool)} {s : List AObj} (h : Tab A n n R s) {i j : Nat} (hi : i < n) (b : Bool) : Tab A n n (putR R i j b) (s.set (2 + 2 * i) (rblk ((R.getD i []).set j b))) where
 a := by rw [List.getElem?_set_ne (by omega)]; exact h.a
 v := by rw [List.getElem?_set_ne (by omega)]; exact h.v
 r x r hr := by
   unfold putR at hr
   by_cases hx : x = i
   · subst hx
     have hlt := (List.getElem?_eq_some_iff.1 (h.row_get hi).choose_spec.2.2.1).1
     rw [List.getElem?_set_self hlt]
     rw [List.getElem?_set_self (by rw [h.len]; exact hi)] at hr
     obtain rfl := Option.some.inj hr
     rfl
   · rw [List.getElem?_set_ne (by omega)] at hr ⊢
     exact h.r x r hr
 len := by unfold putR; rw [List.length_set]; exact h.len
 row r hr := (sq_putR h.sq hi b).2 r hr
theorem mapO_map {α β γ : Type} {g : β → Option γ} (f : α → β) (k : α → γ) : ∀ (l : List α), (∀ x ∈ l, g (f x) = some (k x)) → mapO g (l.map f) = some (l.map k)
 | [], _ => rfl
 | x :: l, h => by
   rw [List.map_cons, mapO, h x (by simp), mapO_map f k l fun y hy => h y (by simp [hy])]
   rfl
theorem chunk_one {α β : Type} (f : α → β) : ∀ (l : List α), chunk 1 l.length (l.map f) = l.map fun x => [f x]
 | [] => rfl
 | x :: l => by
   rw [List.length_cons, chunk, List.map_cons, List.drop_succ_cons, List.drop_zero, chunk_one f l]
   rfl
theorem deep_rblk (s : List AObj) {i f : Nat} {r : List Bool} (h : s[i]? = some (rblk r)) : deepD s (f + 2) (.vec i r.length 1) = some (.sl 1 (r.map fun b => [.sc (.bool b)])) := by
 rw [deepD, h]
 simp only [rblk, List.length_map, Nat.mul_one]
 rw [if_pos ⟨trivial, by omega, trivial⟩, mapO_map (fun b => AV.d (.sc (.bool b))) (fun b => D.sc (.bool b)) r (fun b _ => rfl)]
 rw [Option.map_some]
 rw [chunk_one]
theorem Tab.deep {A : AObj} {n : Nat} {R : List (List Bool)} {s : List AObj} (h : Tab A n n R s) : deepD s 5 (.vec 1 n 1) = some (dRows R) := by
 rw [deepD, h.v]
 have hm : mapO (deepD s 4) (hands n n) = some (R.map fun r => .sl 1 (r.map fun b => [.sc (.bool b)])) := by
   have e : hands n n = (List.range n).map fun i => AV.vec (2 + 2 * i) n 1 := rfl
   have e2 : (R.map fun r => D.sl 1 (r.map fun b => [.sc (.bool b)])) = (List.range n).map fun i => D.sl 1 ((R.getD i []).map fun b => [.sc (.bool b)]) := by
     refine List.ext_getElem? fun i => ?_
     rw [List.getElem?_map, List.getElem?_map]
     by_cases hi : i < n
     · obtain ⟨r, h1, _, _, h4⟩ := h.row_get hi
       rw [h1, List.getElem?_range hi]; simp only [Option.map_some, h4]
     · rw [List.getElem?_eq_none (by rw [h.len]; omega), List.getElem?_eq_none (by simpa using hi)]; rfl
   rw [e, e2]
   refine mapO_map _ _ _ fun i hi => ?_
   obtain ⟨r, h1, h2, h3, h4⟩ := h.row_get (List.mem_range.1 hi)
   rw [h4, ← h2]
   exact deep_rblk s h3
 dsimp only
 rw [if_pos ⟨rfl, by omega, by rw [hands_len]; omega⟩, hm]
 rw [Option.map_some]
 have : n = R.length := h.len.symm
 subst this
 rw [chunk_one]
 rfl
end Go.Proofs.Lg

namespace Go.Proofs.Lg
open Go Go.Ab Go.Bb Go.RowKit Go.Proofs.Lh
theorem Tab.more {A : AObj} {n m : Nat} {R : List (List Bool)} {s : List AObj} (h : Tab A n m R s) (hs : s.length = 2 + 2 * m) {y : AObj} : Tab A n (m + 1) (R ++ [List.replicate n false]) ((s ++ [.vec 4 1 (List.replicate n (.d (.sc (.bool false)))), y]).set 1 (.vec 140 1 (hands n m ++ [.vec s.length n 1]))) where
 a := by
   rw [List.getElem?_set_ne (by omega)]
   exact (h.app _).a
 v := by
   rw [List.getElem?_set_self (by simp)]
   unfold hands
   rw [List.range_succ, List.map_append, hs]; rfl
 r i r hr := by
   rw [List.getElem?_set_ne (by omega)]
   rw [List.getElem?_append] at hr
   split at hr
   · exact (h.app _).r i r hr
   · rename_i hi
     have hi2 : i = m := by
       have := (List.getElem?_eq_some_iff.1 hr).1
       have := h.len
       simp at *; omega
     subst hi2
     have : r = List.replicate n false := by rw [h.len] at hr; simpa using hr.symm
     subst this
     rw [← hs]
     rw [List.getElem?_append_right (Nat.le_refl _)]
     simp [rblk]
 len := by simp [h.len]
 row r hr := by
   rcases List.mem_append.1 hr with hr | hr
   · exact h.row r hr
   · simp at hr; subst hr; simp
end Go.Proofs.Lg

namespace Go.Proofs.Lg
open Go Go.Ab Go.Bb Go.RowKit Go.Proofs.Lh
end Go.Proofs.Lg

namespace Go.Proofs.Lg
open Go Go.Ab Go.Bb Go.RowKit Go.Proofs.Lh
def dRegs (l : List Reg) : D := .sl 3 (l.map dReg)
end Go.Proofs.Lg

namespace Go.Proofs.Lg
open Go Go.Ab Go.Bb Go.RowKit Go.Proofs.Lh
end Go.Proofs.Lg
