/-
  Part GAZ of this claim's proof. Joined by merge.py from the texts of wip/tpl.
-/
import Derived.Test.YtclholnhkhjjaaaGreatGAY
import Derived.Test.YtclholnhkhjjaaaGreatGAV
import Derived.Test.YtclholnhkhjjaaaGreatGAC
import Derived.Test.YtclholnhkhjjaaaGreatGAR
import Derived.KernelRfl
import Derived.Test.YtclholnhkhjjaaaGreatGAB
set_option linter.unusedVariables false
set_option linter.unusedSimpArgs false
set_option linter.unnecessarySimpa false
namespace Go.Proofs.Lg
open Go Go.RowKit
def Fits (r : Reg) : Prop := r.lines.length ≤ 10000000 ∧ r.sides.length ≤ 10000000 ∧ ∀ s ∈ r.sides, s.length ≤ 10000000
theorem RegsIn.cells {W : World} {v : Value} {regs : List Reg} (h : RegsIn W v regs) : ∃ a c, v = .slice a regs.length c ∧ ∀ (k : Nat) (r : Reg), regs[k]? = some r → ∃ b off al nl cl ay ns cs, a = some ⟨b, off, none⟩ ∧ W.cell? ⟨b, off + k * 3, none⟩ = some (.bool r.conflict) ∧ W.cell? ⟨b, off + k * 3 + 1, none⟩ = some (.slice al nl cl) ∧ W.cell? ⟨b, off + k * 3 + 2, none⟩ = some (.slice ay ns cs) ∧
   SlAt W (.slice al nl cl) (ints (nats r.lines)) ∧ SlOf W (.slice ay ns cs) (r.sides.map fun s => ints (nats s)) := by
 obtain ⟨cs, ⟨a, c, rfl, _, _, hc⟩, hl, hr⟩ := h
 refine ⟨a, c, by rw [hl], fun k r hk => ?_⟩
 have hkl : k < cs.length := by rw [hl]; exact (List.getElem?_eq_some_iff.1 hk).1
 obtain ⟨b, off, ha, hcc⟩ := hc (by intro e; subst e; simp at hkl)
 have e1 : cs[k]? = some cs[k] := List.getElem?_eq_getElem hkl
 have h1 := hcc k _ e1
 obtain ⟨vl, vs, hv, h2, h3⟩ := hr k _ r e1 hk
 rw [hv] at h1
 obtain ⟨al, cl, hvl⟩ : ∃ al cl, vl = .slice al (ints (nats r.lines)).length cl := by obtain ⟨a, c, h, _⟩ := h2; exact ⟨a, c, h⟩
 obtain ⟨ay, ns, cs', hvs⟩ : ∃ ay ns cs, vs = .slice ay ns cs := by obtain ⟨_, ⟨a, c, h, _⟩, _⟩ := h3; exact ⟨a, _, c, h⟩
 subst hvl hvs
 exact ⟨b, off, al, _, cl, ay, ns, cs', ha, h1 0 _ rfl, h1 1 _ rfl, h1 2 _ rfl, h2, h3⟩
set_option maxRecDepth 100000 in
set_option maxHeartbeats 4000000 in
theorem refSame_true (regs : List Reg) (va vb : Value) (w : World) (ha : RegsIn w va regs) (hb : RegsIn w vb regs) (hf : ∀ r ∈ regs, Fits r) (_hl : regs.length ≤ 10000000) :
   Calls Tryz.prog 12 #[va, vb] w fun e w' => e = .returned (.bool true) ∧ Below w.heap.size w w' := by
 obtain ⟨a, ca, rfl, hca⟩ := RegsIn.cells ha
 obtain ⟨b, cb, rfl, hcb⟩ := RegsIn.cells hb
 have HA := Lib.hid hca
 have HB := Lib.hid hcb
 have HF := Lib.hid hf
 clear hca hcb ha hb hf
 go_enter Tryz.func12, Tryz.ntmps12
 go_wp2
 go_loopw [5] (fun i wr => ∃ k : Nat, k ≤ regs.length ∧ i = .int .i64 k ∧ Keep w wr) (fun i _ => regs.length - (intOf i).toNat)
 case atStart => exact ⟨0, Nat.zero_le _, rfl, Keep.refl _⟩
 case round =>
   obtain ⟨k, hk, rfl, hK⟩ := hrel
   by_cases hlt : k < regs.length
   · obtain ⟨b1, o1, al1, nl1, cl1, as1, ns1, cs1, rfl, p0, p1, p2, s1, t1⟩ := HA.out k _ (List.getElem?_eq_getElem hlt)
     obtain ⟨b2, o2, al2, nl2, cl2, as2, ns2, cs2, rfl, r0, r1, r2, s2, t2⟩ := HB.out k _ (List.getElem?_eq_getElem hlt)
     obtain ⟨F1, F2, F3⟩ := HF.out _ (List.getElem_mem hlt)
     generalize regs[k] = r at *
     have hc : (r.conflict != r.conflict) = false := by simp
     generalize r.conflict = cf at *
     have HS := Lib.hid (And.intro (s1.below hK) (And.intro (s2.below hK) (And.intro (t1.below hK) (t2.below hK))))
     have HFF := Lib.hid (And.intro F1 (And.intro F2 F3))
     have hne : Nonempty (Cls (Keep wr)) := ⟨⟨wr, Keep.refl wr⟩⟩
     have q0 : ∀ p : Cls (Keep wr), p.w.cell? ⟨b1, o1 + k * 3, none⟩ = some (.bool cf) := fun p => below_cell p.h (below_cell hK p0)
     have q1 : ∀ p : Cls (Keep wr), p.w.cell? ⟨b1, o1 + k * 3 + 1, none⟩ = some (.slice al1 nl1 cl1) := fun p => below_cell p.h (below_cell hK p1)
     have q2 : ∀ p : Cls (Keep wr), p.w.cell? ⟨b1, o1 + k * 3 + 2, none⟩ = some (.slice as1 ns1 cs1) := fun p => below_cell p.h (below_cell hK p2)
     have u0 : ∀ p : Cls (Keep wr), p.w.cell? ⟨b2, o2 + k * 3, none⟩ = some (.bool cf) := fun p => below_cell p.h (below_cell hK r0)
     have u1 : ∀ p : Cls (Keep wr), p.w.cell? ⟨b2, o2 + k * 3 + 1, none⟩ = some (.slice al2 nl2 cl2) := fun p => below_cell p.h (below_cell hK r1)
     have u2 : ∀ p : Cls (Keep wr), p.w.cell? ⟨b2, o2 + k * 3 + 2, none⟩ = some (.slice as2 ns2 cs2) := fun p => below_cell p.h (below_cell hK r2)
     have i1 : (0 : Int) ≤ (k : Int) := by omega
     have i2 : (k : Int) < regs.length := by omega
     have C1 : Hid (∀ p : Cls (Keep wr), Calls Tryz.prog 9 #[.slice al1 nl1 cl1, .slice al2 nl2 cl2] p.w fun e w' => e = .returned (.bool true) ∧ Below p.w.heap.size p.w w') := fun p =>
       refSameInts_true (nats r.lines) _ _ p.w (HS.out.1.below p.h) (HS.out.2.1.below p.h) (by rw [nats_length]; exact HFF.out.1)
     have C2 : Hid (∀ p : Cls (Keep wr), Calls Tryz.prog 41 #[.slice as1 ns1 cs1, .slice as2 ns2 cs2] p.w fun e w' => e = .returned (.bool true) ∧ Below p.w.heap.size p.w w') := fun p =>
       refSameInts21_true (r.sides.map nats) _ _ p.w (by rw [List.map_map]; exact HS.out.2.2.1.below p.h) (by rw [List.map_map]; exact HS.out.2.2.2.below p.h) (by simpa using HFF.out.2.1) (by
         intro s hs
         obtain ⟨s', hs', rfl⟩ := List.mem_map.1 hs
         rw [nats_length]; exact HFF.out.2.2 s' hs')
     clear p0 p1 p2 r0 r1 r2 s1 s2 t1 t2 F1 F2 F3 HA HB HF HS HFF
     go_wp2
     refine wp_region_cls (Keep wr) (by kernel_rfl) (by kernel_rfl) (Keep.drew wr) ?_
     repeat (go_big_quiet_step ((first | (go_at_call 9; refine Calls.cls (C1.out _)) | (go_at_call 41; refine Calls.cls (C2.out _)))))
     refine wpQuiet_nil ?_
     rintro w1 ⟨⟨_, hw1⟩, rfl⟩
     go_wp2
     go_roundw
     case rel => exact ⟨k + 1, by omega, by go_num, hK.trans hw1⟩
     case measure => simp [intOf]; omega
   · go_wp2
     go_ret
     exact ⟨rfl, hK⟩
end Go.Proofs.Lg

namespace Go.Proofs.Lg
open Go Go.RowKit
end Go.Proofs.Lg

namespace Go.Proofs.Lg
open Go Go.RowKit
def awT : Nat → ByteArray
 | 0 => { data := #[97] }
 | 1 => { data := #[98] }
 | 2 => { data := #[120] }
 | 3 => { data := #[121] }
 | _ => { data := #[122] }
def awV (k : Nat) : Vtx := ⟨List.replicate 32 0, k, awT k, true⟩
def awLines : List Vtx := (List.range 5).map awV
def awEdges : List (Int × Int) := [(-1, 0), (0, 1), (0, 2), (0, 3), (1, -1), (2, 1), (3, 4), (4, 1)]
def awG : Gr := ⟨awLines, awEdges⟩
def awRegs : List Reg := [⟨false, [0], []⟩, ⟨true, [], [[2], [3, 4]]⟩, ⟨false, [1], []⟩]
theorem awG_in : inL awG.reach awG.living awG.living = [0, 1] := by kernel_rfl
theorem awG_out : outL awG.reach awG.living awG.living = [2, 3, 4] := by kernel_rfl
theorem awG_bef : bef awG.reach 1 0 = false := by kernel_rfl
theorem awG_settled : sortB awG.reach (inL awG.reach awG.living awG.living) = [0, 1] := by
 rw [awG_in]
 unfold sortB
 exact List.mergeSort_of_pairwise (List.Pairwise.cons (by simp [awG_bef]) (List.Pairwise.cons (by simp) List.Pairwise.nil))
theorem sortI_sorted {l : List Nat} (h : l.Pairwise (· ≤ ·)) : sortI l = l := List.mergeSort_of_pairwise (h.imp fun h => decide_eq_true h)
theorem aw_arr1 : arrL awG.reach [2] = [2] := by unfold arrL; rw [sortI_sorted (by simp)]; kernel_rfl
theorem aw_arr2 : arrL awG.reach [3, 4] = [3, 4] := by unfold arrL; rw [sortI_sorted (by simp)]; kernel_rfl
theorem aw_v1 : visit awG.reach [2, 3, 4] 3 [] 2 = ([2], [2]) := by kernel_rfl
theorem aw_v2 : visit awG.reach [2, 3, 4] 3 [2] 3 = ([3, 4], [4, 3, 2]) := by kernel_rfl
theorem aw_classes : classesL awG.reach [2, 3, 4] = [[2], [3, 4]] := by
 unfold classesL classesS
 have e1 : cstep awG.reach [2, 3, 4] ([], []) 2 = ([[2]], [2]) := by unfold cstep; rw [if_neg (by simp)]; show ([] ++ [arrL awG.reach (visit awG.reach [2, 3, 4] 3 [] 2).1], (visit awG.reach [2, 3, 4] 3 [] 2).2) = _; rw [aw_v1, aw_arr1]; rfl
 have e2 : cstep awG.reach [2, 3, 4] ([[2]], [2]) 3 = ([[2], [3, 4]], [4, 3, 2]) := by unfold cstep; rw [if_neg (by simp)]; show ([[2]] ++ [arrL awG.reach (visit awG.reach [2, 3, 4] 3 [2] 3).1], (visit awG.reach [2, 3, 4] 3 [2] 3).2) = _; rw [aw_v2, aw_arr2]; rfl
 have e3 : cstep awG.reach [2, 3, 4] ([[2], [3, 4]], [4, 3, 2]) 4 = ([[2], [3, 4]], [4, 3, 2]) := by unfold cstep; rw [if_pos (by simp)]
 rw [List.foldl_cons, e1, List.foldl_cons, e2, List.foldl_cons, e3]; rfl
theorem aw_g0 : ([2, 3, 4].filter fun i => gapN awG.reach [0, 1] i == 0) = [] := by kernel_rfl
theorem aw_g1 : ([2, 3, 4].filter fun i => gapN awG.reach [0, 1] i == 1) = [2, 3, 4] := by kernel_rfl
theorem aw_g2 : ([2, 3, 4].filter fun i => gapN awG.reach [0, 1] i == 2) = [] := by kernel_rfl
theorem awG_regions : regionsL awG.reach awG.living = awRegs := by
 unfold regionsL
 rw [awG_settled, awG_out]
 have e0 : regStep awG.reach [0, 1] [2, 3, 4] ([], []) 0 = ([], [0]) := by unfold regStep; rw [aw_g0]; rfl
 have e1 : regStep awG.reach [0, 1] [2, 3, 4] ([], [0]) 1 = ([⟨false, [0], []⟩, ⟨true, [], [[2], [3, 4]]⟩], [1]) := by unfold regStep; rw [aw_g1]; simp [aw_classes]
 have e2 : regStep awG.reach [0, 1] [2, 3, 4] ([⟨false, [0], []⟩, ⟨true, [], [[2], [3, 4]]⟩], [1]) 2 = ([⟨false, [0], []⟩, ⟨true, [], [[2], [3, 4]]⟩], [1]) := by unfold regStep; rw [aw_g2]; rfl
 show regEnd (regRun awG.reach [0, 1] [2, 3, 4] 3) = _
 rw [regRun_succ, regRun_succ, regRun_succ]
 rw [show regRun awG.reach [0, 1] [2, 3, 4] 0 = ([], []) from rfl, e0, e1, e2]
 rfl
theorem awG_seq : seqL awG.reach awG.living = [0, 2, 3, 4, 1] := by unfold seqL; rw [awG_regions]; rfl
end Go.Proofs.Lg

namespace Go.Proofs.Lg
open Go Go.RowKit
def awL (k : Nat) : List Value := ((List.range k).map awV).flatMap Vtx.cells
theorem awL_succ (k : Nat) : awL (k + 1) = awL k ++ (awV k).cells := by simp [awL, List.range_succ]
def awStrs : Array Value := #[.string (awT 0), .string (awT 1), .string (awT 2), .string (awT 3), .string (awT 4)]
theorem awStrs_get {k : Nat} (h : k < 5) : awStrs[k]? = some (.string (awT k)) := by
 match k, h with
 | 0, _ => rfl
 | 1, _ => rfl
 | 2, _ => rfl
 | 3, _ => rfl
 | 4, _ => rfl
def awCells (k : Nat) : Array Value := (awV k).cells.toArray
theorem zero_Vertex : (Tryz.prog.info? 40).map (fun i => (i.zero, i.size, i.bytes)) = some (some (((Tryz.prog.info? 40).bind (·.zero)).getD undef), 35, 64) := by kernel_rfl
theorem zero_Vertex_size : (((Tryz.prog.info? 40).bind (·.zero)).getD undef).cells.size = 35 := by kernel_rfl
theorem awV_len (k : Nat) : (awV k).cells.length = 35 := Vtx.cells_length (by simp [awV])
theorem awSrc (wr : World) (k : Nat) : SrcAt (wr.alloc (.cells (awCells k) 40)) (.slice (some ⟨wr.heap.size, 0, none⟩) 1 1) 1 35 (awV k).cells := by
 have := SrcAt.one (wr.alloc (.cells (awCells k) 40)) wr.heap.size 1 (awV k).cells (fun j u hu => by rw [cell_of_heap (heap_alloc_new wr _)]; simpa [awCells] using hu)
 rw [awV_len] at this
 exact this
def allocs (W : World) (os : List Obj) : World := os.foldl World.alloc W
theorem allocs_below : ∀ (os : List Obj) (W : World), Below W.heap.size W (allocs W os) ∧ (allocs W os).heap.size = W.heap.size + os.length
 | [], W => ⟨Below.refl _ _, rfl⟩
 | o :: os, W => by
   obtain ⟨h1, h2⟩ := allocs_below os (W.alloc o)
   refine ⟨((Below.refl _ _).alloc (Nat.le_refl _) o).trans (h1.mono (by simp)), ?_⟩
   show (allocs (W.alloc o) os).heap.size = _
   rw [h2]; simp; omega
theorem allocs_heap : ∀ (os : List Obj) (W : World) (i : Nat) (o : Obj), os[i]? = some o → (allocs W os).heap[W.heap.size + i]? = some o
 | [], _, _, _, h => by simp at h
 | o :: os, W, 0, o', h => by
   simp at h; subst h
   show (allocs (W.alloc o) os).heap[W.heap.size]? = some o
   exact heap_below (allocs_below os (W.alloc o)).1 (heap_alloc_new W o)
 | o :: os, W, i + 1, o', h => by
   have := allocs_heap os (W.alloc o) i o' (by simpa using h)
   show (allocs (W.alloc o) os).heap[W.heap.size + (i + 1)]? = some o'
   rw [show W.heap.size + (i + 1) = (W.alloc o).heap.size + i by simp; omega]
   exact this
theorem SlAt.ofHeap {W : World} {b n : Nat} {arr : Array Value} {t : TypeId} {xs : List Value} (h : W.heap[b]? = some (.cells arr t (0, 0))) (hx : arr.toList = xs) (hn : xs.length = n) (hm : n ≤ 9223372036854775807) : SlAt W (.slice (some ⟨b, 0, none⟩) n n) xs :=
 SlAt.mk hn (Nat.le_refl _) hm fun i u hu => by rw [cell_of_heap h, Nat.zero_add, ← Array.getElem?_toList, hx]; exact hu
def awObjs (n : Nat) : List Obj :=
 [.cells #[.int .i64 (-1), .int .i64 0, .int .i64 0, .int .i64 1, .int .i64 0, .int .i64 2, .int .i64 0, .int .i64 3, .int .i64 1, .int .i64 (-1), .int .i64 2, .int .i64 1, .int .i64 3, .int .i64 4, .int .i64 4, .int .i64 1] 74,
  .cells #[.int .i64 0] 3, .cells #[.int .i64 2] 3, .cells #[.int .i64 3, .int .i64 4] 3,
  .cells #[.slice (some ⟨n + 1 + 1, 0, none⟩) 1 1, .slice (some ⟨n + 1 + 1 + 1, 0, none⟩) 2 2] 29, .cells #[.int .i64 1] 3,
  .cells #[.bool false, .slice (some ⟨n + 1, 0, none⟩) 1 1, .slice none 0 0, .bool true, .slice none 0 0, .slice (some ⟨n + 1 + 1 + 1 + 1, 0, none⟩) 2 2, .bool false, .slice (some ⟨n + 1 + 1 + 1 + 1 + 1, 0, none⟩) 1 1, .slice none 0 0] 45]
theorem aw_at (ws : World) (base n : Nat) (v : Value) (hn : ws.heap.size = n) (hown : ws.ownsRow base 40 35 v 5 (awL 5)) :
   GrAt (allocs ws (awObjs n)) v (.slice (some ⟨n, 0, none⟩) 8 8) awG ∧ RegsIn (allocs ws (awObjs n)) (.slice (some ⟨n + 1 + 1 + 1 + 1 + 1 + 1, 0, none⟩) 3 3) awRegs ∧ Below n ws (allocs ws (awObjs n)) := by
 subst hn
 obtain ⟨hb, _⟩ := allocs_below (awObjs ws.heap.size) ws
 have hh := fun i o h => allocs_heap (awObjs ws.heap.size) ws i o h
 generalize allocs ws (awObjs ws.heap.size) = E at hb hh
 have h0 : E.heap[ws.heap.size]? = _ := hh 0 _ rfl
 have h1 : E.heap[ws.heap.size + 1]? = _ := hh 1 _ rfl
 have h2 : E.heap[ws.heap.size + 1 + 1]? = _ := hh 2 _ rfl
 have h3 : E.heap[ws.heap.size + 1 + 1 + 1]? = _ := hh 3 _ rfl
 have h4 : E.heap[ws.heap.size + 1 + 1 + 1 + 1]? = _ := hh 4 _ rfl
 have h5 : E.heap[ws.heap.size + 1 + 1 + 1 + 1 + 1]? = _ := hh 5 _ rfl
 have h6 : E.heap[ws.heap.size + 1 + 1 + 1 + 1 + 1 + 1]? = _ := hh 6 _ rfl
 refine ⟨⟨?_, ?_, ?_, ?_, by decide, by decide⟩, ⟨[[.bool false, .slice (some ⟨ws.heap.size + 1, 0, none⟩) 1 1, .slice none 0 0], [.bool true, .slice none 0 0, .slice (some ⟨ws.heap.size + 1 + 1 + 1 + 1, 0, none⟩) 2 2], [.bool false, .slice (some ⟨ws.heap.size + 1 + 1 + 1 + 1 + 1, 0, none⟩) 1 1, .slice none 0 0]], ?_, rfl, ?_⟩, hb⟩
 · have := ownsRow_slN (α := Vtx) (xs := awLines) (f := Vtx.cells) (ownsRow_below hown hb) rfl (fun x hx => by
     obtain ⟨k, _, rfl⟩ := List.mem_map.1 hx
     exact awV_len k)
   exact this
 · exact ownsRow_slN (α := Int × Int) (w := E) (base := 0) (e := 74) (size := 2) (n := 8) (xs := awEdges) (f := edgeCells) ⟨rfl, .inr ⟨ws.heap.size, 8, _, rfl, Nat.zero_le _, h0, Nat.le_refl _, by decide, rfl, rfl⟩⟩ rfl (fun x _ => rfl)
 · intro x hx
   obtain ⟨k, hk, rfl⟩ := List.mem_map.1 hx
   have hk5 := List.mem_range.1 hk
   refine ⟨by simp [awV], ?_, ?_, ?_⟩
   · intro b hb
     have : b = 0 := List.eq_of_mem_replicate hb
     omega
   · show (-9223372036854775808 : Int) ≤ (k : Int); omega
   · show (k : Int) ≤ 9223372036854775807; omega
 · intro e he
   have : ∀ e ∈ awEdges, I64 e.1 ∧ I64 e.2 := by unfold I64; decide
   exact this e he
 · have := ownsRow_slN (α := List Value) (w := E) (base := 0) (e := 45) (size := 3) (n := 3) (v := .slice (some ⟨ws.heap.size + 1 + 1 + 1 + 1 + 1 + 1, 0, none⟩) 3 3)
     (xs := [[.bool false, .slice (some ⟨ws.heap.size + 1, 0, none⟩) 1 1, .slice none 0 0], [.bool true, .slice none 0 0, .slice (some ⟨ws.heap.size + 1 + 1 + 1 + 1, 0, none⟩) 2 2], [.bool false, .slice (some ⟨ws.heap.size + 1 + 1 + 1 + 1 + 1, 0, none⟩) 1 1, .slice none 0 0]]) (f := fun c => c)
     ⟨rfl, .inr ⟨_, 3, _, rfl, Nat.zero_le _, h6, Nat.le_refl _, by decide, rfl, rfl⟩⟩ rfl (fun x hx => by simp at hx; rcases hx with rfl | rfl | rfl <;> rfl)
   simpa using this
 · intro i c r hc hr
   have s2 := SlAt.ofHeap (n := 1) h2 rfl rfl (by decide)
   have s3 := SlAt.ofHeap (n := 2) h3 rfl rfl (by decide)
   match i, hc, hr with
   | 0, hc, hr =>
     simp at hc; simp [awRegs] at hr; subst hc hr
     exact ⟨_, _, rfl, SlAt.ofHeap (n := 1) h1 rfl rfl (by decide), ⟨[], SlAt.nil _, rfl, by simp⟩⟩
   | 1, hc, hr =>
     simp at hc; simp [awRegs] at hr; subst hc hr
     refine ⟨_, _, rfl, SlAt.nil _, ⟨_, SlAt.ofHeap (n := 2) h4 rfl rfl (by decide), rfl, fun i u r hu hr => ?_⟩⟩
     match i, hu, hr with
     | 0, hu, hr => simp at hu hr; subst hu hr; exact s2
     | 1, hu, hr => simp at hu hr; subst hu hr; exact s3
     | i + 2, hu, _ => simp at hu
   | 2, hc, hr =>
     simp at hc; simp [awRegs] at hr; subst hc hr
     exact ⟨_, _, rfl, SlAt.ofHeap (n := 1) h5 rfl rfl (by decide), ⟨[], SlAt.nil _, rfl, by simp⟩⟩
   | i + 3, hc, _ => simp at hc
set_option maxRecDepth 100000 in
set_option maxHeartbeats 4000000 in
theorem awake_any (w : World) : Calls Tryz.prog 8 #[] w fun e w' => e = .returned (.bool true) ∧ Below w.heap.size w w' := by
 go_enter Tryz.func8, Tryz.ntmps8
 go_wp2
 go_loopg [7] 6 (fun gk i wr => ∃ (k : Nat) (v : Value), i = .int .i64 k ∧ k ≤ 5 ∧ gk + k = 6 ∧ wr.heap[w.heap.size]? = some (.cells #[v, .slice none 0 0] 25 (0, 0)) ∧ wr.ownsRow (w.heap.size + 2) 40 35 v k (awL k) ∧ Below w.heap.size w wr ∧ wr.heap[w.heap.size + 1]? = some (.cells awStrs 9 (0, 0)))
 case atStart => exact ⟨0, .slice none 0 0, rfl, by omega, rfl, (Below.heap_alloc _ _ _ (by simp)).trans (heap_alloc_new w _), World.ownsRow_nil _ _ _ _, ((Below.refl _ _).alloc (Nat.le_refl _) _).alloc (by simp) _, by rw [show w.heap.size + 1 = (w.alloc (.cells #[.slice none 0 0, .slice none 0 0] 25)).heap.size by simp]; exact heap_alloc_new _ _⟩
 case round =>
   obtain ⟨k, v, rfl, hk, hgk, hbox, hown, hB, hstr⟩ := hrel
   by_cases hlt : k < 5
   · have hs : wr.cell? ⟨w.heap.size + 1, k, none⟩ = some (.string (awT k)) := by rw [cell_of_heap hstr]; exact awStrs_get hlt
     have hb0 : wr.cell? ⟨w.heap.size, 0, none⟩ = some v := by rw [cell_of_heap hbox]; rfl
     have hl1 := cell_lt hs
     have hl0 := cell_lt hb0
     have hsz : w.heap.size + 2 ≤ wr.heap.size := hl1
     have hf0 : wr.frozen? ⟨w.heap.size, 0, none⟩ = false := frozen_of_heap hbox
     obtain ⟨av, cv, hv⟩ := ownsRow_form hown
     subst hv
     have HOW := Lib.hid hown
     have HBX := Lib.hid hbox
     have HST := Lib.hid hstr
     have HBB := Lib.hid hB
     have HXH : Hid (∀ w2, (wr.alloc (.cells (awCells k) 40)).grownBy w2 (Value.slice av k cv).ownBlock → w2.heap[w.heap.size]? = some (.cells #[.slice av k cv, .slice none 0 0] 25 (0, 0)) ∧ w2.heap[w.heap.size + 1]? = some (.cells awStrs 9 (0, 0)) ∧ Below w.heap.size w w2) := fun w2 hg => by
       have hne : ∀ b, (Value.slice av k cv).ownBlock = some b → w.heap.size + 2 ≤ b := fun b e => (hown.lt b e).1
       exact ⟨(hg.block _ (by simp; omega) (fun e => by have := hne _ e.symm; omega)).trans ((Below.heap_alloc _ _ _ hl0).trans hbox), (hg.block _ (by simp; omega) (fun e => by have := hne _ e.symm; omega)).trans ((Below.heap_alloc _ _ _ hl1).trans hstr),
         Below.grown (hB.alloc (by omega) _) hg (by simp; omega) (fun j hj => by have := hne j hj; omega)⟩
     clear hbox hown hB hstr
     go_wp2_with (at_builtin; go_must (refine wpList_app rfl _ _ _ rfl (w.heap.size + 2) 40 _ 35 64 Tryz.underlying22 zero_Vertex zero_Vertex_size (by decide) _ k (awL k) rfl (ownsRow_below HOW.out ((Below.refl _ _).alloc (Nat.le_refl _) _)) _ 1 (awV k).cells rfl (awSrc wr k) (awV k).cells_one (by omega) (by omega) (by simp; omega) ?_); intro a' c' w2 hown2 hgrow2 hat2; obtain ⟨z1, z2, z3⟩ := HXH.out w2 hgrow2; have y1 : w2.cell? ⟨w.heap.size, 0, none⟩ = some (.slice av k cv) := (by rw [cell_of_heap z1]; rfl); have y2 : w2.frozen? ⟨w.heap.size, 0, none⟩ = false := frozen_of_heap z1; have Z1 := Lib.hid z1; have Z2 := Lib.hid z2; have Z3 := Lib.hid z3; clear z1 z2 z3)
     go_roundg (gk - 1)
     case measure => omega
     case rel =>
       refine ⟨k + 1, .slice a' (k + 1) c', by go_num, by omega, by omega, ?_, ?_, ?_, ?_⟩
       · rw [heap_setCell_same Z1.out]; rfl
       · rw [awL_succ]
         exact ownsRow_setCell_below hown2 (by simp) _
       · exact Z3.out.setCell (Nat.le_refl _) _
       · rw [Below.heap_setCell _ _ _ _ (by simp)]; exact Z2.out
   · have hk5 : k = 5 := by omega
     subst hk5
     have hb0 : wr.cell? ⟨w.heap.size, 0, none⟩ = some v := by rw [cell_of_heap hbox]; rfl
     have hb1 : wr.cell? ⟨w.heap.size, 1, none⟩ = some (.slice none 0 0) := by rw [cell_of_heap hbox]; rfl
     have hf1 : wr.frozen? ⟨w.heap.size, 1, none⟩ = false := frozen_of_heap hbox
     have hl0 := cell_lt hb0
     obtain ⟨av, cv, hv⟩ := ownsRow_form hown
     subst hv
     have HOW := Lib.hid hown
     have HBX := Lib.hid hbox
     have HBB := Lib.hid hB
     clear hbox hown hB hstr hgk hk hlt
     have hsz : w.heap.size + 2 ≤ wr.heap.size := by have := HBB.out.size; have := (HOW.out.2.resolve_left (fun h => by cases h.2)); obtain ⟨gb, _, _, _, h1, h2, _⟩ := this; have := (Array.getElem?_eq_some_iff.1 h2).1; omega
     obtain ⟨ws, hws⟩ : ∃ ws, ws = wr.setCell ⟨w.heap.size, 1, none⟩ (.slice (some ⟨wr.heap.size, 0, none⟩) 8 8) := ⟨_, rfl⟩
     have hwsn : ws.heap.size = wr.heap.size := by rw [hws]; simp [World.setCell]
     have hwsh : ws.heap[w.heap.size]? = some (.cells #[.slice av 5 cv, .slice (some ⟨wr.heap.size, 0, none⟩) 8 8] 25 (0, 0)) := by rw [hws, heap_setCell_same HBX.out]; rfl
     have hwso : ws.ownsRow (w.heap.size + 2) 40 35 (.slice av 5 cv) 5 (awL 5) := by rw [hws]; exact ownsRow_setCell_below HOW.out (by simp) _
     have hwsb : Below w.heap.size w ws := by rw [hws]; exact HBB.out.setCell (Nat.le_refl _) _
     obtain ⟨ag, ar, ab⟩ := aw_at ws (w.heap.size + 2) wr.heap.size _ hwsn hwso
     have s0 : (wr.setCell ⟨w.heap.size, 1, none⟩ (.slice (some ⟨wr.heap.size, 0, none⟩) 8 8)).cell? ⟨w.heap.size, 0, none⟩ = some (.slice av 5 cv) := by rw [← hws, cell_of_heap hwsh]; rfl
     have s1 : (wr.setCell ⟨w.heap.size, 1, none⟩ (.slice (some ⟨wr.heap.size, 0, none⟩) 8 8)).cell? ⟨w.heap.size, 1, none⟩ = some (.slice (some ⟨wr.heap.size, 0, none⟩) 8 8) := by rw [← hws, cell_of_heap hwsh]; rfl
     have e0 : (allocs ws (awObjs wr.heap.size)).cell? ⟨w.heap.size, 0, none⟩ = some (.slice av 5 cv) := (ab.cell (p := ⟨w.heap.size, 0, none⟩) (by show w.heap.size < _; omega)).trans (by rw [cell_of_heap hwsh]; rfl)
     have e1 : (allocs ws (awObjs wr.heap.size)).cell? ⟨w.heap.size, 1, none⟩ = some (.slice (some ⟨wr.heap.size, 0, none⟩) 8 8) := (ab.cell (p := ⟨w.heap.size, 1, none⟩) (by show w.heap.size < _; omega)).trans (by rw [cell_of_heap hwsh]; rfl)
     have hbE : Below w.heap.size w (allocs ws (awObjs wr.heap.size)) := hwsb.trans (ab.mono (by omega))
     have HWS := Lib.hid hws
     have HE := Lib.hid (And.intro ag (And.intro ar (And.intro e0 (And.intro e1 hbE))))
     clear hws hwsn hwsh hwso hwsb ag ar ab e0 e1 hbE s0 s1
     go_upto_region 9 with (fail)
     rw [← HWS.out]
     change Code.wp _ _ _ _ (allocs ws (awObjs wr.heap.size))
     generalize allocs ws (awObjs wr.heap.size) = E at HE ⊢
     clear hb0 hb1 hf1 hl0 HWS
     have z0 := HE.out.2.2.1
     have z1 := HE.out.2.2.2.1
     have zl := cell_lt z0
     go_wp2_with (fail)
     refine (Regions_any _ _ awG E HE.out.1).mono ?_
     rintro e w1 ⟨v1, rfl, hr1, hb1⟩
     rw [awG_regions] at hr1
     have x10 := below_cell hb1 HE.out.2.2.1
     have x11 := below_cell hb1 HE.out.2.2.2.1
     have HB1 : Hid (Below w.heap.size w w1) := HE.out.2.2.2.2.trans (hb1.mono HE.out.2.2.2.2.size)
     have HS := Lib.hid (refSame_true awRegs v1 _ w1 hr1 (HE.out.2.1.below hb1) (by unfold Fits awRegs; simp) (by decide))
     have HG1 := Lib.hid (HE.out.1.below hb1)
     obtain ⟨a1, n1, c1, hv1⟩ := hr1.form
     subst hv1
     clear hr1 hb1 HE
     go_wp2_with (fail)
     refine HS.out.mono ?_
     rintro e w2 ⟨rfl, hb2⟩
     have x20 := below_cell hb2 x10
     have x21 := below_cell hb2 x11
     have HB2 : Hid (Below w.heap.size w w2) := HB1.out.trans (hb2.mono HB1.out.size)
     have HG2 := Lib.hid (HG1.out.below hb2)
     have l2 := cell_lt x20
     clear x10 x11 HB1 HG1 HS hb2
     go_wp2_with (fail)
     refine (Settled_any _ _ awG w2 HG2.out).mono ?_
     rintro e w3 ⟨v3, rfl, hs3, hb3⟩
     rw [awG_settled] at hs3
     have x30 := below_cell hb3 x20
     have x31 := below_cell hb3 x21
     have HB3 : Hid (Below w.heap.size w w3) := HB2.out.trans (hb3.mono HB2.out.size)
     have HG3 := Lib.hid (HG2.out.below hb3)
     have l3 := cell_lt x30
     have hba3 : Below w3.heap.size w3 (w3.alloc (.cells #[.int .i64 0, .int .i64 1] 3)) := (Below.refl _ _).alloc (Nat.le_refl _) _
     have HI3 := Lib.hid (refSameInts_true (nats [0, 1]) v3 (.slice (some ⟨w3.heap.size, 0, none⟩) 2 2) (w3.alloc (.cells #[.int .i64 0, .int .i64 1] 3)) (hs3.below hba3) (SlAt.ofHeap (heap_alloc_new w3 _) rfl rfl (by decide)) (by decide))
     have HBA := Lib.hid hba3
     obtain ⟨a3, c3, hv3⟩ : ∃ a c, v3 = .slice a 2 c := by obtain ⟨a, c, h, _⟩ := hs3; exact ⟨a, c, h⟩
     subst hv3
     clear x20 x21 HB2 HG2 hs3 hb3 hba3 l2
     go_wp2_with (fail)
     refine HI3.out.mono ?_
     rintro e w4 ⟨rfl, hb4⟩
     have hb4' : Below w3.heap.size w3 w4 := HBA.out.trans (hb4.mono HBA.out.size)
     have x40 := below_cell hb4' x30
     have x41 := below_cell hb4' x31
     have HB4 : Hid (Below w.heap.size w w4) := HB3.out.trans (hb4'.mono HB3.out.size)
     have HG4 := Lib.hid (HG3.out.below hb4')
     have l4 := cell_lt x40
     clear x30 x31 HB3 HG3 HI3 HBA hb4 hb4' l3
     go_wp2_with (fail)
     refine (Sequence_any _ _ awG w4 HG4.out).mono ?_
     rintro e w5 ⟨v5, rfl, hs5, hb5⟩
     rw [awG_seq] at hs5
     have HB5 : Hid (Below w.heap.size w w5) := HB4.out.trans (hb5.mono HB4.out.size)
     have hba5 : Below w5.heap.size w5 (w5.alloc (.cells #[.int .i64 0, .int .i64 2, .int .i64 3, .int .i64 4, .int .i64 1] 3)) := (Below.refl _ _).alloc (Nat.le_refl _) _
     have HI5 := Lib.hid (refSameInts_true (nats [0, 2, 3, 4, 1]) v5 (.slice (some ⟨w5.heap.size, 0, none⟩) 5 5) (w5.alloc (.cells #[.int .i64 0, .int .i64 2, .int .i64 3, .int .i64 4, .int .i64 1] 3)) (hs5.below hba5) (SlAt.ofHeap (heap_alloc_new w5 _) rfl rfl (by decide)) (by decide))
     have HBA := Lib.hid hba5
     obtain ⟨a5, c5, hv5⟩ : ∃ a c, v5 = .slice a 5 c := by obtain ⟨a, c, h, _⟩ := hs5; exact ⟨a, c, h⟩
     subst hv5
     clear x40 x41 HB4 HG4 hs5 hb5 hba5 l4
     go_wp2_with (fail)
     refine HI5.out.mono ?_
     rintro e w6 ⟨rfl, hb6⟩
     have HB6 : Hid (Below w.heap.size w w6) := (HB5.out.trans (HBA.out.mono HB5.out.size)).trans (hb6.mono (Nat.le_trans HB5.out.size HBA.out.size))
     clear HI5 HBA hb6 HB5
     go_wp2
     go_ret
     exact ⟨rfl, HB6.out⟩
end Go.Proofs.Lg

namespace Go.Proofs.Lg
open Go Go.RowKit
section
variable {P : Program} {ops : Array Oper} {Q : Exit → Act → World → Prop} {C : World → Prop}
end
end Go.Proofs.Lg

namespace Go.Proofs.Lg
open Go Go.RowKit
theorem len_flatMap {α β : Type} (f : α → List β) : ∀ l : List α, (∀ x ∈ l, f x ≠ []) → l.length ≤ (l.flatMap f).length
 | [], _ => Nat.zero_le _
 | x :: l, h => by
   have h1 := len_flatMap f l fun y hy => h y (by simp [hy])
   have h2 := List.length_pos_iff.2 (h x (by simp))
   rw [List.flatMap_cons, List.length_append, List.length_cons]; omega
theorem len_flatMap_mem {α β : Type} (f : α → List β) : ∀ (l : List α) (x : α), x ∈ l → (f x).length ≤ (l.flatMap f).length
 | [], _, h => absurd h (by simp)
 | y :: l, x, h => by
   rw [List.flatMap_cons, List.length_append]
   rcases List.mem_cons.1 h with rfl | h
   · omega
   · have := len_flatMap_mem f l x h; omega
theorem reg_bounds (g : Gr) : (regionsL g.reach g.living).length ≤ g.lines.length ∧ ∀ r ∈ regionsL g.reach g.living, r.lines.length ≤ g.lines.length ∧ r.sides.length ≤ g.lines.length ∧ ∀ s ∈ r.sides, s.length ≤ g.lines.length := by
 have hg := (regionsL_good g.lv).1
 have hn : (seqL g.reach g.living).length ≤ g.lines.length := by rw [(seqL_perm g.lv).length_eq]; exact g.living_len
 unfold seqL at hn
 generalize regionsL g.reach g.living = regs at *
 have hfl : ∀ r : Reg, r.all.length = r.lines.length + r.sides.flatten.length := fun r => by unfold Reg.all; rw [List.length_append]
 have hid : ∀ l : List (List Nat), l.flatten = l.flatMap id := fun l => by simp [List.flatMap_id]
 refine ⟨Nat.le_trans (len_flatMap Reg.all regs fun r hr he => ?_) hn, fun r hr => ?_⟩
 · have h0 := hfl r
   rw [he] at h0
   simp only [List.length_nil] at h0
   rcases hg r hr with ⟨_, h, _⟩ | ⟨_, _, h, h'⟩
   · have := List.length_pos_iff.2 h; omega
   · have h2 := List.length_pos_iff.2 h
     have h3 := len_flatMap id r.sides h'
     rw [hid] at h0; omega
 · have h1 := len_flatMap_mem Reg.all regs r hr
   have h0 := hfl r
   refine ⟨by omega, ?_, fun s hs => ?_⟩
   · rcases hg r hr with ⟨_, _, h⟩ | ⟨_, _, h, h'⟩
     · rw [h]; exact Nat.zero_le _
     · have h3 := len_flatMap id r.sides h'
       rw [hid] at h0; omega
   · have h3 := len_flatMap_mem id r.sides s hs
     rw [hid] at h0
     have : (id s).length = s.length := rfl
     omega
end Go.Proofs.Lg
