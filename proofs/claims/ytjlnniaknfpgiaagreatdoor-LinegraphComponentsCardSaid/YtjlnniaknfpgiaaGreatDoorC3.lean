/-
  Part C3 of this claim's proof. Joined by merge.py from the texts of wip/tpl.
-/
import Derived.Test.YtjlnniaknfpgiaaGreatDoorGA
set_option linter.unusedVariables false
set_option linter.unusedSimpArgs false
set_option linter.unnecessarySimpa false
namespace Go.Proofs.Lg
open Go Go.RowKit
attribute [local go_sem ↓] Go.wp_at_zero Go.wp_at_succ

theorem size_Id : (Tryz.prog.info? 42).map (·.size) = some 33 := by kernel_rfl

def outB (n : Nat) (i : Int) : Bool := decide (i < -1) || decide ((n : Int) ≤ i)

set_option maxHeartbeats 400000 in
theorem Check1_any (B : Nat) (a : Option Addr) (n c : Nat) (i : Int) (w : World) (hc : w.cell? ⟨B, 0, none⟩ = some (.slice a n c)) (_hn : n ≤ 1000000) (_hi : I64 i) :
    Calls Tryz.prog 25 #[.int .i64 i, .pointer (some ⟨B, 0, none⟩)] w fun e w' => e = .returned (.bool (outB n i)) ∧ w = w' := by
  unfold outB
  by_cases h : i < -1
  · have h1 : decide (i < -1) = true := by simp [h]
    go_enter Tryz.func25, Tryz.ntmps25
    go_wp2
    go_ret
    simp [h]
  · have h1 : decide (i < -1) = false := by simp; omega
    go_enter Tryz.func25, Tryz.ntmps25
    go_wp2
    go_ret
    simp

def Vtx.cmp (a b : Vtx) : Int := cmpId a.id a.n b.id b.n
def linesOk : List Vtx → Bool
  | a :: b :: l => decide (a.cmp b < 0) && linesOk (b :: l)
  | _ => true
def cmpEdge (p e : Int × Int) : Int := orInt [cmpInt p.1 e.1, cmpInt p.2 e.2]
def edgesErr (n : Nat) : Option (Int × Int) → List (Int × Int) → Int
  | _, [] => 0
  | none, e :: l => if outB n e.1 || outB n e.2 then 2 else if e.1 = e.2 then 1 else edgesErr n (some e) l
  | some p, e :: l => if outB n e.1 || outB n e.2 then 2 else if e.1 = e.2 then 1 else if 0 ≤ cmpEdge p e then 9 else edgesErr n (some e) l
/-- Why a graph is not valid: 0: it is. -/
def Gr.check (g : Gr) : Int := if linesOk g.lines then edgesErr g.lines.length none g.edges else 9

def prevEdge (l : List (Int × Int)) : Nat → Option (Int × Int)
  | 0 => none
  | k + 1 => l[k]?

theorem linesOk_cons (x y : Vtx) (l : List Vtx) : linesOk (x :: y :: l) = (decide (x.cmp y < 0) && linesOk (y :: l)) := rfl

theorem edge_range {w : World} {b o : Nat} {e : Int × Int} (h : w.rangeAt b o (edgeCells e)) : w.cell? ⟨b, o, none⟩ = some (Value.int .i64 e.1) ∧ w.cell? ⟨b, o + 1, none⟩ = some (Value.int .i64 e.2) :=
  ⟨h 0 _ rfl, h 1 _ rfl⟩

set_option maxHeartbeats 4000000 in
set_option maxRecDepth 100000 in
/-- linegraph.Check: it returns why the graph is not valid; what was there stays. -/
theorem Check_any (vl ve : Value) (g : Gr) (w : World) (hg : GrAt w vl ve g) :
    Calls Tryz.prog 7 #[.agg #[vl, ve]] w fun e w' => e = .returned (.int .i64 g.check) ∧ Below w.heap.size w w' := by
  obtain ⟨⟨al, cl, rfl, hl1, hl2, hl3⟩, ⟨ae, ce, rfl, he1, he2, he3⟩, hokl, hoke, hfl, hfe⟩ := hg
  simp only [List.length_map] at *
  go_enter Tryz.func7, Tryz.ntmps7
  go_wp2
  go_loopw [3] (fun i wr => ∃ k : Nat, i = .int .i64 ((k : Int) + 1) ∧ (k = 0 ∨ k < g.lines.length) ∧ linesOk g.lines = linesOk (g.lines.drop k) ∧ Below (w.heap.size + 1) (w.alloc (.cells #[.slice al g.lines.length cl, .slice ae g.edges.length ce] 25)) wr) (fun i _ => g.lines.length + 1 - (intOf i).toNat)
  case atStart => exact ⟨0, by simp, .inl rfl, rfl, Below.refl _ _⟩
  case round =>
    obtain ⟨k, rfl, hk, hor, hB⟩ := hrel
    have HO := Lib.hid hor
    clear hor
    have hB0 : Below w.heap.size w wr := ((Below.refl _ _).alloc (Nat.le_refl _) _).trans (hB.mono (by omega))
    have hbox : wr.cell? ⟨w.heap.size, 0, none⟩ = some (.slice al g.lines.length cl) := (hB.cell (by simp)).trans (by simp [go_sem])
    have hbox1 : wr.cell? ⟨w.heap.size, 1, none⟩ = some (.slice ae g.edges.length ce) := (hB.cell (by simp)).trans (by simp [go_sem])
    by_cases hlt : k + 1 < g.lines.length
    · obtain ⟨b, off, rfl, hc⟩ := hl3 (by intro e; rw [List.map_eq_nil_iff] at e; simp [e] at hlt)
      have r1 := rangeAt_below hB0 (Vtx.id_range (hokl g.lines[k] (List.getElem_mem _)).1 (hc k _ (by simp; exact ⟨_, List.getElem?_eq_getElem (by omega), rfl⟩)))
      have r2 := rangeAt_below hB0 (Vtx.id_range (hokl g.lines[k + 1] (List.getElem_mem _)).1 (hc (k + 1) _ (by simp; exact ⟨_, List.getElem?_eq_getElem (by omega), rfl⟩)))
      have o1 := hokl g.lines[k] (List.getElem_mem _)
      have o2 := hokl g.lines[k + 1] (List.getElem_mem _)
      have hd : g.lines.drop k = g.lines[k] :: g.lines[k + 1] :: g.lines.drop (k + 2) := by
        rw [List.drop_eq_getElem_cons (by omega), List.drop_eq_getElem_cons (by omega)]
      have hd2 : g.lines.drop (k + 1) = g.lines[k + 1] :: g.lines.drop (k + 2) := List.drop_eq_getElem_cons (by omega)
      generalize g.lines[k] = x at r1 o1 hd
      generalize g.lines[k + 1] = y at r2 o2 hd hd2
      have HD := Lib.hid hd
      have HD2 := Lib.hid hd2
      clear hd hd2 hc hl3 he3 hokl hoke
      have hu := Tryz.underlying42
      have hi : (Tryz.prog.info? 42).map (·.size) = some (idCells x.id x.n).toList.length := by rw [size_Id]; simp [idCells, o1.1]
      have hi' : (Tryz.prog.info? 42).map (·.size) = some (idCells y.id y.n).toList.length := by rw [size_Id]; simp [idCells, o2.1]
      have b1 : (0 : Int) ≤ (k : Int) := by omega
      have b2 : (k : Int) < g.lines.length := by omega
      have b3 : (0 : Int) ≤ (k : Int) + 1 := by omega
      have b4 : (k : Int) + 1 < g.lines.length := by omega
      have hne : Nonempty (Cls (Keep wr)) := ⟨⟨wr, Keep.refl wr⟩⟩
      have cbox : ∀ p : Cls (Keep wr), p.w.cell? ⟨w.heap.size, 0, none⟩ = some (.slice (some ⟨b, off, none⟩) g.lines.length cl) := fun p => below_cell p.h hbox
      have q1 : ∀ p : Cls (Keep wr), p.w.rangeAt b (off + k * 35) (idCells x.id x.n).toList := fun p => rangeAt_below p.h r1
      have q2 : ∀ p : Cls (Keep wr), p.w.rangeAt b (off + (k + 1) * 35) (idCells y.id y.n).toList := fun p => rangeAt_below p.h r2
      by_cases hcmp : 0 ≤ cmpId x.id x.n y.id y.n
      · have HC := Lib.hid hcmp
        have hcb : decide (0 ≤ cmpId x.id x.n y.id y.n) = true := by simp [hcmp]
        clear hcmp
        go_wp2
        refine wp_region_cls (Keep wr) (by kernel_rfl) (by kernel_rfl) (Keep.drew wr) ?_
        repeat (first | (refine wpQuiet_load_mid rfl _ _ rfl _ _ rfl _ _ q1 hu rfl hi ?_; simp only [Act.put, List.setIfInBounds_toArray, List.set_cons_zero, List.set_cons_succ]) | (refine wpQuiet_load_mid rfl _ _ rfl _ _ rfl _ _ q2 hu rfl hi' ?_; simp only [Act.put, List.setIfInBounds_toArray, List.set_cons_zero, List.set_cons_succ]) | go_big_quiet_step ((go_at_call 24; refine Calls.cls (Compare_any x.id y.id x.n y.n o1.2.1 o2.2.1 o1.1 o2.1 _))))
        refine wpQuiet_nil ?_
        rintro _ ⟨⟨w1, hw1⟩, rfl⟩
        go_wp2
        go_ret
        refine ⟨ret_int ?_, hB0.trans (Below.mono hw1 hB0.size)⟩
        unfold Gr.check
        rw [HO.out, HD.out, linesOk_cons]
        have : ¬ x.cmp y < 0 := by unfold Vtx.cmp; have := HC.out; omega
        simp [this]
      · have HC := Lib.hid hcmp
        have hcb : decide (0 ≤ cmpId x.id x.n y.id y.n) = false := by simp; omega
        clear hcmp
        go_wp2
        refine wp_region_cls (Keep wr) (by kernel_rfl) (by kernel_rfl) (Keep.drew wr) ?_
        repeat (first | (refine wpQuiet_load_mid rfl _ _ rfl _ _ rfl _ _ q1 hu rfl hi ?_; simp only [Act.put, List.setIfInBounds_toArray, List.set_cons_zero, List.set_cons_succ]) | (refine wpQuiet_load_mid rfl _ _ rfl _ _ rfl _ _ q2 hu rfl hi' ?_; simp only [Act.put, List.setIfInBounds_toArray, List.set_cons_zero, List.set_cons_succ]) | go_big_quiet_step ((go_at_call 24; refine Calls.cls (Compare_any x.id y.id x.n y.n o1.2.1 o2.2.1 o1.1 o2.1 _))))
        refine wpQuiet_nil ?_
        rintro _ ⟨⟨w1, hw1⟩, rfl⟩
        go_wp2
        go_roundw
        case rel =>
          refine ⟨k + 1, by go_num, .inr (by omega), ?_, hB.trans (Below.mono hw1 (by have := hB.size; simp at this; omega))⟩
          have : x.cmp y < 0 := by unfold Vtx.cmp; have := HC.out; omega
          rw [HO.out, HD.out, HD2.out, linesOk_cons]
          simp [this]
        case measure => simp [intOf]; omega
    · have HL : Hid (linesOk g.lines = true) := by
        show linesOk g.lines = true
        rw [HO.out]
        rcases hk with rfl | hk
        · match hgl : g.lines with
          | [] => rfl
          | [x] => rfl
          | x :: y :: l => rw [hgl] at hlt; simp at hlt
        · rw [List.drop_eq_getElem_cons hk, List.drop_eq_nil_of_le (by omega)]; rfl
      clear hl3 hk HO hokl hB
      obtain ⟨wo, rfl⟩ : ∃ wo : World, wo = wr := ⟨_, rfl⟩
      have hda : decide ((k : Int) + 1 < (g.lines.length : Int)) = false := by simp; omega
      clear hlt
      go_wp2
      go_loopw [33] (fun i w2 => ∃ k : Nat, k ≤ g.edges.length ∧ i = .int .i64 k ∧ edgesErr g.lines.length none g.edges = edgesErr g.lines.length (prevEdge g.edges k) (g.edges.drop k) ∧ Keep wo w2) (fun i _ => g.edges.length - (intOf i).toNat)
      case atStart => exact ⟨0, Nat.zero_le _, rfl, rfl, Keep.refl wo⟩
      case round =>
        obtain ⟨k, hk, rfl, hor, hK⟩ := hrel
        have HO := Lib.hid hor
        clear hor
        have HB2 : Hid (Below w.heap.size w wr) := hB0.trans (Below.mono hK hB0.size)
        have hb2 := below_cell hK hbox
        have hb3 := below_cell hK hbox1
        have hsz := cell_lt hb2
        by_cases hlt : k < g.edges.length
        · obtain ⟨b, off, rfl, hc⟩ := he3 (by intro e; rw [List.map_eq_nil_iff] at e; simp [e] at hlt)
          obtain ⟨r1, r2⟩ := edge_range (e := g.edges[k]) (rangeAt_below HB2.out (hc k _ (by rw [List.getElem?_map, List.getElem?_eq_getElem hlt]; rfl)))
          have o1 := hoke g.edges[k] (List.getElem_mem _)
          have hd : g.edges.drop k = g.edges[k] :: g.edges.drop (k + 1) := List.drop_eq_getElem_cons hlt
          have hp : prevEdge g.edges (k + 1) = some g.edges[k] := List.getElem?_eq_getElem hlt
          generalize g.edges[k] = e at r1 r2 o1 hd hp
          obtain ⟨e1, e2⟩ := e
          obtain ⟨o1, o2⟩ := o1
          dsimp only at r1 r2 o1 o2
          have HD := Lib.hid hd
          have HP := Lib.hid hp
          clear hd hp he3 hoke hbox hbox1
          by_cases hA : outB g.lines.length e1 = true
          · go_wp2_with (go_at_call 25; refine (Check1_any _ _ _ _ _ _ (alloc_cell hb2 _) hfl o1).mono ?_; rintro e w' ⟨rfl, rfl⟩)
            go_ret
            refine ⟨ret_int ?_, HB2.out.alloc HB2.out.size _⟩
            unfold Gr.check
            rw [HL.out, HO.out, HD.out]
            cases prevEdge g.edges k <;> simp [edgesErr, hA]
          · have hA : outB g.lines.length e1 = false := by simpa using hA
            by_cases hA2 : outB g.lines.length e2 = true
            · go_wp2_with fail
              (refine (Check1_any _ _ _ _ _ _ (alloc_cell hb2 _) hfl o1).mono ?_; rintro e w' ⟨rfl, rfl⟩)
              go_wp2_with fail
              (refine (Check1_any _ _ _ _ _ _ (alloc_cell hb2 _) hfl o2).mono ?_; rintro e w' ⟨rfl, rfl⟩)
              go_wp2
              go_ret
              refine ⟨ret_int ?_, HB2.out.alloc HB2.out.size _⟩
              unfold Gr.check
              rw [HL.out, HO.out, HD.out]
              cases prevEdge g.edges k <;> simp [edgesErr, hA2]
            · have hA2 : outB g.lines.length e2 = false := by simpa using hA2
              by_cases heq : e1 = e2
              · have h1 : (e1 == e2) = true := by simp [heq]
                have HE := Lib.hid heq
                clear heq
                go_wp2_with fail
                (refine (Check1_any _ _ _ _ _ _ (alloc_cell hb2 _) hfl o1).mono ?_; rintro e w' ⟨rfl, rfl⟩)
                go_wp2_with fail
                (refine (Check1_any _ _ _ _ _ _ (alloc_cell hb2 _) hfl o2).mono ?_; rintro e w' ⟨rfl, rfl⟩)
                go_wp2
                go_ret
                refine ⟨ret_int ?_, HB2.out.alloc HB2.out.size _⟩
                unfold Gr.check
                rw [HL.out, HO.out, HD.out]
                cases prevEdge g.edges k <;> simp [edgesErr, hA2, HE.out]
              · have h1 : (e1 == e2) = false := by simp [heq]
                have HE := Lib.hid heq
                clear heq
                by_cases hk0 : k = 0
                · have hd0 : decide ((0 : Int) < (k : Int)) = false := by simp [hk0]
                  have hd1 : decide (0 < k) = false := by simp [hk0]
                  have HZ := Lib.hid hk0
                  clear hk0
                  go_wp2_with fail
                  (refine (Check1_any _ _ _ _ _ _ (alloc_cell hb2 _) hfl o1).mono ?_; rintro e w' ⟨rfl, rfl⟩)
                  go_wp2_with fail
                  (refine (Check1_any _ _ _ _ _ _ (alloc_cell hb2 _) hfl o2).mono ?_; rintro e w' ⟨rfl, rfl⟩)
                  go_wp2
                  refine wp_region_cls (Keep (wr.alloc (.cells #[.int .i64 e1, .int .i64 e2] 64))) (by kernel_rfl) (by kernel_rfl) (Keep.drew _) ?_
                  have hne : Nonempty (Cls (Keep (wr.alloc (.cells #[.int .i64 e1, .int .i64 e2] 64)))) := ⟨⟨_, Keep.refl _⟩⟩
                  repeat (go_big_quiet_step (fail))
                  refine wpQuiet_nil ?_
                  rintro _ ⟨⟨w1, hw1⟩, rfl⟩
                  go_wp2
                  go_roundw
                  case rel =>
                    refine ⟨k + 1, by omega, by go_num, ?_, hK.trans (Keep.trans ((Below.refl _ _).alloc (Nat.le_refl _) _) hw1)⟩
                    rw [HO.out, HD.out, HP.out, HZ.out]
                    simp [prevEdge, edgesErr, hA, hA2, HE.out]
                  case measure => simp [intOf]; omega
                · have hd0 : decide ((0 : Int) < (k : Int)) = true := by simp; omega
                  have hd1 : decide (0 < k) = true := by simp; omega
                  have hk1 : 0 < k := by omega
                  have hk2 : (0 : Int) ≤ (k : Int) - 1 := by omega
                  have hk3 : (k : Int) - 1 < g.edges.length := by omega
                  have hj : ((k : Int) - 1).toNat < g.edges.length := by omega
                  obtain ⟨r3, r4⟩ := edge_range (e := g.edges[((k : Int) - 1).toNat]) (rangeAt_below HB2.out (hc _ _ (by rw [List.getElem?_map, List.getElem?_eq_getElem hj]; rfl)))
                  have hpv : prevEdge g.edges k = some g.edges[((k : Int) - 1).toNat] := by
                    obtain ⟨j, rfl⟩ : ∃ j, k = j + 1 := ⟨k - 1, by omega⟩
                    have : ((j + 1 : Nat) - 1 : Int).toNat = j := by omega
                    simp only [prevEdge, this]
                    exact List.getElem?_eq_getElem (by omega)
                  generalize g.edges[((k : Int) - 1).toNat] = p at r3 r4 hpv
                  obtain ⟨p1, p2⟩ := p
                  dsimp only at r3 r4
                  have r3' := r3
                  have r4' := r4
                  rw [show ((k : Int) - 1).toNat = k - 1 by omega] at r3' r4'
                  have HPV := Lib.hid hpv
                  clear hpv hk0 hj hc
                  by_cases hcmp : 0 ≤ cmpEdge (p1, p2) (e1, e2)
                  · have HC := Lib.hid hcmp
                    have hcb : decide (0 ≤ orInt [cmpInt p1 e1, cmpInt p2 e2]) = true := by simpa [cmpEdge] using hcmp
                    clear hcmp
                    go_wp2_with fail
                    (refine (Check1_any _ _ _ _ _ _ (alloc_cell hb2 _) hfl o1).mono ?_; rintro e w' ⟨rfl, rfl⟩)
                    go_wp2_with fail
                    (refine (Check1_any _ _ _ _ _ _ (alloc_cell hb2 _) hfl o2).mono ?_; rintro e w' ⟨rfl, rfl⟩)
                    go_wp2
                    refine wp_region_cls (Keep (wr.alloc (.cells #[.int .i64 e1, .int .i64 e2] 64))) (by kernel_rfl) (by kernel_rfl) (Keep.drew _) ?_
                    have hne : Nonempty (Cls (Keep (wr.alloc (.cells #[.int .i64 e1, .int .i64 e2] 64)))) := ⟨⟨_, Keep.refl _⟩⟩
                    have c1 : ∀ p : Cls (Keep (wr.alloc (.cells #[.int .i64 e1, .int .i64 e2] 64))), p.w.cell? ⟨w.heap.size, 1, none⟩ = some (.slice (some ⟨b, off, none⟩) g.edges.length ce) := fun p => below_cell p.h (alloc_cell hb3 _)
                    have c2 : ∀ p : Cls (Keep (wr.alloc (.cells #[.int .i64 e1, .int .i64 e2] 64))), p.w.cell? ⟨b, off + ((k : Int) - 1).toNat * 2, none⟩ = some (.int .i64 p1) := fun p => below_cell p.h (alloc_cell r3 _)
                    have c2' : ∀ p : Cls (Keep (wr.alloc (.cells #[.int .i64 e1, .int .i64 e2] 64))), p.w.cell? ⟨b, off + (k - 1) * 2, none⟩ = some (.int .i64 p1) := fun p => below_cell p.h (alloc_cell r3' _)
                    have c3 : ∀ p : Cls (Keep (wr.alloc (.cells #[.int .i64 e1, .int .i64 e2] 64))), p.w.cell? ⟨b, off + ((k : Int) - 1).toNat * 2 + 1, none⟩ = some (.int .i64 p2) := fun p => below_cell p.h (alloc_cell r4 _)
                    have c3' : ∀ p : Cls (Keep (wr.alloc (.cells #[.int .i64 e1, .int .i64 e2] 64))), p.w.cell? ⟨b, off + (k - 1) * 2 + 1, none⟩ = some (.int .i64 p2) := fun p => below_cell p.h (alloc_cell r4' _)
                    have c4 : ∀ p : Cls (Keep (wr.alloc (.cells #[.int .i64 e1, .int .i64 e2] 64))), p.w.cell? ⟨wr.heap.size, 0, none⟩ = some (.int .i64 e1) := fun p => below_cell p.h (by simp [go_sem])
                    have c5 : ∀ p : Cls (Keep (wr.alloc (.cells #[.int .i64 e1, .int .i64 e2] 64))), p.w.cell? ⟨wr.heap.size, 1, none⟩ = some (.int .i64 e2) := fun p => below_cell p.h (by simp [go_sem])
                    repeat (go_big_quiet_step ((go_at_call 26; refine Calls.cls (compareEdges_any p1 p2 e1 e2 _))))
                    refine wpQuiet_nil ?_
                    rintro _ ⟨⟨w1, hw1⟩, rfl⟩
                    go_wp2
                    go_ret
                    refine ⟨ret_int ?_, (HB2.out.alloc HB2.out.size _).trans (Below.mono hw1 (by have := HB2.out.size; simp; omega))⟩
                    unfold Gr.check
                    rw [HL.out, HO.out, HD.out, HPV.out]
                    simp [edgesErr, hA, hA2, HE.out, HC.out]
                  · have HC := Lib.hid hcmp
                    have hcb : decide (0 ≤ orInt [cmpInt p1 e1, cmpInt p2 e2]) = false := by simpa [cmpEdge] using hcmp
                    clear hcmp
                    go_wp2_with fail
                    (refine (Check1_any _ _ _ _ _ _ (alloc_cell hb2 _) hfl o1).mono ?_; rintro e w' ⟨rfl, rfl⟩)
                    go_wp2_with fail
                    (refine (Check1_any _ _ _ _ _ _ (alloc_cell hb2 _) hfl o2).mono ?_; rintro e w' ⟨rfl, rfl⟩)
                    go_wp2
                    refine wp_region_cls (Keep (wr.alloc (.cells #[.int .i64 e1, .int .i64 e2] 64))) (by kernel_rfl) (by kernel_rfl) (Keep.drew _) ?_
                    have hne : Nonempty (Cls (Keep (wr.alloc (.cells #[.int .i64 e1, .int .i64 e2] 64)))) := ⟨⟨_, Keep.refl _⟩⟩
                    have c1 : ∀ p : Cls (Keep (wr.alloc (.cells #[.int .i64 e1, .int .i64 e2] 64))), p.w.cell? ⟨w.heap.size, 1, none⟩ = some (.slice (some ⟨b, off, none⟩) g.edges.length ce) := fun p => below_cell p.h (alloc_cell hb3 _)
                    have c2 : ∀ p : Cls (Keep (wr.alloc (.cells #[.int .i64 e1, .int .i64 e2] 64))), p.w.cell? ⟨b, off + ((k : Int) - 1).toNat * 2, none⟩ = some (.int .i64 p1) := fun p => below_cell p.h (alloc_cell r3 _)
                    have c2' : ∀ p : Cls (Keep (wr.alloc (.cells #[.int .i64 e1, .int .i64 e2] 64))), p.w.cell? ⟨b, off + (k - 1) * 2, none⟩ = some (.int .i64 p1) := fun p => below_cell p.h (alloc_cell r3' _)
                    have c3 : ∀ p : Cls (Keep (wr.alloc (.cells #[.int .i64 e1, .int .i64 e2] 64))), p.w.cell? ⟨b, off + ((k : Int) - 1).toNat * 2 + 1, none⟩ = some (.int .i64 p2) := fun p => below_cell p.h (alloc_cell r4 _)
                    have c3' : ∀ p : Cls (Keep (wr.alloc (.cells #[.int .i64 e1, .int .i64 e2] 64))), p.w.cell? ⟨b, off + (k - 1) * 2 + 1, none⟩ = some (.int .i64 p2) := fun p => below_cell p.h (alloc_cell r4' _)
                    have c4 : ∀ p : Cls (Keep (wr.alloc (.cells #[.int .i64 e1, .int .i64 e2] 64))), p.w.cell? ⟨wr.heap.size, 0, none⟩ = some (.int .i64 e1) := fun p => below_cell p.h (by simp [go_sem])
                    have c5 : ∀ p : Cls (Keep (wr.alloc (.cells #[.int .i64 e1, .int .i64 e2] 64))), p.w.cell? ⟨wr.heap.size, 1, none⟩ = some (.int .i64 e2) := fun p => below_cell p.h (by simp [go_sem])
                    repeat (go_big_quiet_step ((go_at_call 26; refine Calls.cls (compareEdges_any p1 p2 e1 e2 _))))
                    refine wpQuiet_nil ?_
                    rintro _ ⟨⟨w1, hw1⟩, rfl⟩
                    go_wp2
                    go_roundw
                    case rel =>
                      refine ⟨k + 1, by omega, by go_num, ?_, hK.trans (Keep.trans ((Below.refl _ _).alloc (Nat.le_refl _) _) hw1)⟩
                      rw [HO.out, HD.out, HP.out, HPV.out]
                      simp [edgesErr, hA, hA2, HE.out]
                      intro h; have := HC.out; omega
                    case measure => simp [intOf]; omega
        · have HK := Lib.hid (show k = g.edges.length by omega)
          clear he3 hbox hbox1 hb2 hb3 hoke
          go_wp2
          go_ret
          refine ⟨ret_int ?_, HB2.out⟩
          unfold Gr.check
          rw [HL.out, HO.out, HK.out, List.drop_length]
          cases prevEdge g.edges g.edges.length <;> rfl
end Go.Proofs.Lg
