/-
  Part K9 of this claim's proof. Joined by merge.py from the texts of wip/tpl.
-/
import Derived.Test.YtclholnhkhjjaaaGreatK4
import Derived.Test.YtclholnhkhjjaaaGreatK8
set_option linter.unusedVariables false
set_option linter.unusedSimpArgs false
set_option linter.unnecessarySimpa false
namespace Go.Proofs.Lg
open Go Go.RowKit

theorem compE_two (a b : Int × Int) : ∀ p : List (Int × Int), compE (p ++ [a, b]) = if a = b then compE (p ++ [a]) else compE (p ++ [a]) ++ [b]
  | [] => by
    simp only [List.nil_append, compE]
    split
    · rename_i h; rw [h]
    · rfl
  | [x] => by
    simp only [List.singleton_append, compE]
    by_cases h : a = b
    · subst h
      simp
    · simp only [if_neg h]
      split <;> rfl
  | x :: y :: p => by
    have h := compE_two a b (y :: p)
    simp only [List.cons_append] at h ⊢
    rw [compE, compE, h]
    split
    · split <;> rfl
    · split <;> simp

theorem compE_step {l : List (Int × Int)} {m : Nat} (hm : m + 1 < l.length) : compE (l.take (m + 2)) = if l[m] = l[m + 1] then compE (l.take (m + 1)) else compE (l.take (m + 1)) ++ [l[m + 1]] := by
  have h1 : l.take (m + 1) = l.take m ++ [l[m]] := by rw [List.take_add_one, List.getElem?_eq_getElem (by omega)]; rfl
  have h2 : l.take (m + 2) = l.take m ++ [l[m], l[m + 1]] := by
    rw [List.take_add_one, List.getElem?_eq_getElem hm, h1, List.append_assoc]; rfl
  rw [h2, h1]
  exact compE_two _ _ _

theorem compE_short : ∀ {l : List (Int × Int)}, l.length < 2 → compE l = l
  | [], _ => rfl
  | [_], _ => rfl
  | _ :: _ :: _, h => by simp at h; omega

theorem edges_range {w : World} {g t : Nat} {cur : Array Value} {l : List (Int × Int)} (hg : w.heap[g]? = some (.cells cur t (0, 0))) (ht : cur.toList.take (l.length * 2) = (l.map edgeCells).flatten) {j : Nat} {e : Int × Int} (hj : l[j]? = some e) : w.rangeAt g (j * 2) (edgeCells e) := by
  intro q u hu
  have hq : q < 2 := by have := (List.getElem?_eq_some_iff.1 hu).1; simpa [edgeCells] using this
  have hjl := (List.getElem?_eq_some_iff.1 hj).1
  have hrow := Go.Ab.flatten_row (sz := 2) (l.map edgeCells) (fun r hr => by obtain ⟨x, _, rfl⟩ := List.mem_map.1 hr; rfl) j (edgeCells e) (by rw [List.getElem?_map, hj]; rfl)
  rw [← hrow, List.getElem?_take, if_pos hq, List.getElem?_drop, ← ht, List.getElem?_take, if_pos (by omega)] at hu
  have hc := Go.Ab.cells_at (w := w) (t := t) (us := cur.toList) (by simpa using hg) (j * 2 + q)
  exact hc.trans hu

theorem flat_set (e : Int × Int) : ∀ (es : List (Int × Int)) (k : Nat), k < es.length → ((es.set k e).map edgeCells).flatten = (es.map edgeCells).flatten.take (k * 2) ++ edgeCells e ++ (es.map edgeCells).flatten.drop (k * 2 + 2)
  | [], _, h => by simp at h
  | x :: es, 0, _ => by simp [edgeCells]
  | x :: es, k + 1, h => by
    have ih := flat_set e es k (by simpa using h)
    rw [List.set_cons_succ, List.map_cons, List.flatten_cons, ih, show (k + 1) * 2 = k * 2 + 2 by omega]
    simp [edgeCells]

theorem take_put {N p : Nat} {cur E : List Value} (hE : E.length = 2) (hp : p + 2 ≤ N) (hN : N ≤ cur.length) : (cur.take p ++ E ++ cur.drop (p + 2)).take N = (cur.take N).take p ++ E ++ (cur.take N).drop (p + 2) := by
  have hA : (cur.take p ++ E).length = p + 2 := by rw [List.length_append, List.length_take, hE]; omega
  obtain ⟨q, rfl⟩ : ∃ q, N = p + 2 + q := ⟨N - (p + 2), by omega⟩
  rw [List.take_append, hA, List.take_of_length_le (by omega), List.take_take, Nat.min_eq_left (by omega), List.drop_take]

/-- A row of edges, one of them written anew. -/
theorem edges_put {cur : List Value} {es : List (Int × Int)} {n k : Nat} {e : Int × Int} (ht : cur.take (n * 2) = (es.map edgeCells).flatten) (hn : es.length = n) (hc : n * 2 ≤ cur.length) (hk : k < n) :
    (cur.take (k * 2) ++ edgeCells e ++ cur.drop (k * 2 + 2)).take (n * 2) = ((es.set k e).map edgeCells).flatten := by
  rw [take_put (by rfl) (by omega) hc, ht, flat_set e es k (by omega)]

theorem comp_set {l : List (Int × Int)} {m : Nat} {e : Int × Int} (hm : m < l.length) (hkc : (compE (l.take m)).length < m) (hC : compE (l.take (m + 1)) = compE (l.take m) ++ [e]) :
    (compE (l.take m) ++ l.drop (compE (l.take m)).length).set (compE (l.take m)).length e = compE (l.take (m + 1)) ++ l.drop (compE (l.take (m + 1))).length := by
  rw [hC, List.set_append_right _ _ (Nat.le_refl _), Nat.sub_self, List.drop_eq_getElem_cons (by omega), List.set_cons_zero]
  simp

theorem comp_get {l : List (Int × Int)} {m j : Nat} (hkc : (compE (l.take m)).length ≤ j) : (compE (l.take m) ++ l.drop (compE (l.take m)).length)[j]? = l[j]? := by
  rw [List.getElem?_append_right hkc, List.getElem?_drop]
  congr 1
  omega

def zEdge : Value := .agg #[.int .i64 0, .int .i64 0]
theorem info_Edge : (Tryz.prog.info? 74).map (fun i => (i.zero, i.size, i.bytes)) = some (some zEdge, 2, 16) := by kernel_rfl
theorem zEdge_one (m : Nat) : ∀ u ∈ (Builtin.zeroCells zEdge.cells m).toList, u.oneCell' = true := by
  intro u hu
  rw [zeroCells_zeros] at hu
  unfold Go.Ab.zeros at hu
  rw [Array.toList_map, List.mem_map] at hu
  obtain ⟨i, _, rfl⟩ := hu
  have h2 : i % zEdge.cells.size = 0 ∨ i % zEdge.cells.size = 1 := by
    have : zEdge.cells.size = 2 := rfl
    rw [this]; omega
  rcases h2 with h2 | h2 <;> rw [h2] <;> rfl
theorem zEdge_len (m : Nat) : (Builtin.zeroCells zEdge.cells m).toList.length = m * 2 := by
  rw [zeroCells_zeros]
  unfold Go.Ab.zeros
  simp [zEdge, Value.cells]

set_option maxRecDepth 100000 in
set_option maxHeartbeats 1000000 in
theorem CompactEdges_any (l : List (Int × Int)) (g c base : Nat) (w : World) (hn : l.length ≤ 1000000) (hown : w.ownsRow base 74 2 (.slice (some ⟨g, 0, none⟩) l.length c) l.length (l.map edgeCells).flatten) :
    Calls Tryz.prog 53 #[.slice (some ⟨g, 0, none⟩) l.length c] w fun e w' => e = .returned (.slice (some ⟨g, 0, none⟩) (compE l).length c) ∧
      w'.ownsRow base 74 2 (.slice (some ⟨g, 0, none⟩) (compE l).length c) (compE l).length ((compE l).map edgeCells).flatten ∧ w.grownBy w' (some g) := by
  by_cases hs : l.length < 2
  · have HC : Hid (compE l = l) := compE_short hs
    have HO := Lib.hid hown
    have h2 : decide ((l.length : Int) < 2) = true := by simp; omega
    clear hown
    go_enter Tryz.func53, Tryz.ntmps53
    go_wp2
    go_ret
    rw [HC.out]
    exact ⟨rfl, HO.out, ⟨rfl, rfl, rfl, Nat.le_refl _, fun _ _ _ => rfl⟩⟩
  rcases hown.2 with ⟨h, _⟩ | ⟨g', cap, cur, hv, hbg, hg, hncap, hcm, hcs, htake⟩
  · simp at h
  obtain ⟨rfl, rfl⟩ : g = g' ∧ c = cap := by simpa using hv
  have h2 : decide ((l.length : Int) < 2) = false := by simp; omega
  have HG := Lib.hid (And.intro hg (And.intro hbg (And.intro hcs (And.intro htake hcm))))
  clear hv hg hbg hcs htake hown
  go_enter Tryz.func53, Tryz.ntmps53
  go_wp2_with (fail)
  go_loopg [3] (l.length + 1) (fun gk v3 wr => ∃ k : Nat, gk + k = l.length + 1 ∧ v3 = .int .i64 ((k : Nat) + 1 : Nat) ∧ k + 1 ≤ l.length ∧ compE (l.take (k + 1)) = l.take (k + 1) ∧ wr.heap[g]? = w.heap[g]? ∧ w.grownBy wr (some g))
  case atStart =>
    refine ⟨0, rfl, rfl, by omega, ?_, rfl, ⟨rfl, rfl, rfl, Nat.le_refl _, fun _ _ _ => rfl⟩⟩
    exact compE_short (by rw [List.length_take]; omega)
  case round =>
    obtain ⟨k, hgk, rfl, hk, hck, hh, hgr⟩ := hrel
    by_cases hlt : k + 1 < l.length
    · obtain ⟨hg, hbg, hcs, htake, hcm2⟩ := HG.out
      have hgw := hh.trans hg
      obtain ⟨C, hC⟩ : ∃ C : World → Prop, C = fun w' => w'.heap[g]? = wr.heap[g]? := ⟨_, rfl⟩
      have hC0 : C wr.drew := by rw [hC]; rfl
      have hCi : ∀ w', C w' → w'.heap[g]? = wr.heap[g]? := fun w' h => by rw [hC] at h; exact h
      have hrg : ∀ (p : Cls C) (j : Nat) (e : Int × Int), l[j]? = some e → p.w.cell? ⟨g, j * 2, none⟩ = some (Value.int .i64 e.1) ∧ p.w.cell? ⟨g, j * 2 + 1, none⟩ = some (Value.int .i64 e.2) := fun p j e hj => edge_range (edges_range ((hCi _ p.h).trans hgw) htake hj)
      have hl1 : l[k + 1]? = some l[k + 1] := List.getElem?_eq_getElem hlt
      have hl0 : l[k]? = some l[k] := List.getElem?_eq_getElem (by omega)
      have hstep := compE_step hlt
      generalize l[k + 1] = e1 at hl1 hstep
      generalize l[k] = e0 at hl0 hstep
      obtain ⟨a1, c1⟩ := e1
      obtain ⟨a0, c0⟩ := e0
      have x1 := fun p => (hrg p (k + 1) _ hl1).1
      have x2 := fun p => (hrg p (k + 1) _ hl1).2
      have x3 := fun p => (hrg p k _ hl0).1
      have x4 := fun p => (hrg p k _ hl0).2
      dsimp only at x1 x2 x3 x4
      have HS := Lib.hid (And.intro hstep (And.intro hl1 hl0))
      have HR := Lib.hid (And.intro hh (And.intro hgr hck))
      have hglt : ∀ p : Cls C, g < p.w.heap.size := fun p => cell_lt (x1 p)
      have hne : Nonempty (Cls C) := ⟨⟨_, hC0⟩⟩
      have hwk : IntKind.i64.wrap (k : Int) = (k : Int) := Go.Ab.wrap64_id (by omega) (by omega)
      have b1 : (0 : Int) ≤ (k : Int) := by omega
      have b2 : (k : Int) < (l.length : Int) := by omega
      have b3 : (0 : Int) ≤ (k : Int) + 1 := by omega
      have b4 : (k : Int) + 1 < (l.length : Int) := by omega
      clear hstep hl1 hl0 hh hgr hck hrg hC hCi hg hbg hcs htake hcm2 hgw
      go_wp2_with (fail)
      refine wp_region_ord C 99 [(0, true), (1, true), (2, true), (3, true), (4, true), (5, true), (6, true), (7, true), (8, true), (9, true)] (by kernel_rfl) (by kernel_rfl) hC0 ?_
      iterate 9 (refine wpOrd_pure rfl (fun _ _ _ _ h => h) (by rfl) (fun K hK => ?_); go_simp; refine hK _ ?_; clear hK K)
      refine wpOrd_pure rfl (fun _ _ _ _ h => h) (by rfl) (fun K hK => ?_); go_simp
      refine ⟨.bool (decide ((a0, c0) = (a1, c1))), fun p => ?_, hK _ ?_⟩
      · by_cases h1 : a1 = a0 <;> by_cases h2 : c1 = c0 <;> simp [h1, h2, eq_comm]
      clear hK K x1 x2 x3 x4 hglt hne
      refine wpOrd_nil ?_
      generalize hq : decide ((a0, c0) = (a1, c1)) = q
      cases q with
      | false =>
        have HQ := Lib.hid hq
        clear hq
        go_wp2_with (fail)
        go_roundg (gk - 1)
        case measure => omega
        case rel =>
          obtain ⟨hh, hgr, hck⟩ := HR.out
          obtain ⟨hstep, hl1, hl0⟩ := HS.out
          have hne : ¬ (a0, c0) = (a1, c1) := by simpa using HQ.out
          rw [if_neg hne, hck] at hstep
          refine ⟨k + 1, by omega, by go_num, by omega, ?_, hh, grownBy_trans' hgr (drew_grownBy _ _)⟩
          rw [hstep, List.take_add_one (i := k + 1), hl1]; rfl
      | true =>
        have HQ := Lib.hid hq
        clear hq
        go_wp2_with (fail)
        have heq : (a0, c0) = (a1, c1) := by simpa using HQ.out
        obtain ⟨hh, hgr, hck⟩ := HR.out
        obtain ⟨hstep, hl1, hl0⟩ := HS.out
        rw [if_pos heq, hck] at hstep
        have HST := Lib.hid (And.intro hh (And.intro hgr hstep))
        clear heq hh hgr hck hstep hl1 hl0 HR HS HQ hC0
        generalize hwo : wr.drew = wo
        have hwh : wo.heap = wr.heap := by rw [← hwo]; rfl
        have HWO := Lib.hid (And.intro hwh (show w.grownBy wo (some g) by rw [← hwo]; exact grownBy_trans' HST.out.2.1 (drew_grownBy _ _)))
        clear hwo hwh
        obtain ⟨gko, hgko⟩ : ∃ x, x = gk := ⟨_, rfl⟩
        subst hgko
        go_loopg [3, 5] (l.length - (k + 2)) (fun gk v3 v5 w2 => ∃ j : Nat, gk + (k + j + 2) = l.length ∧ v5 = .int .i64 ((j : Nat) + 1 : Nat) ∧ v3 = .int .i64 ((compE (l.take (k + j + 2))).length : Nat) ∧ (compE (l.take (k + j + 2))).length ≤ k + j + 1 ∧ w.grownBy w2 (some g) ∧
          ∃ cur2, w2.heap[g]? = some (.cells cur2 74 (0, 0)) ∧ cur2.size = c * 2 ∧ cur2.toList.take (l.length * 2) = ((compE (l.take (k + j + 2)) ++ l.drop (compE (l.take (k + j + 2))).length).map edgeCells).flatten)
        case atStart =>
          obtain ⟨hg, hbg, hcs, htake, _⟩ := HG.out
          obtain ⟨hh, hgr, hstep⟩ := HST.out
          have hlen : (l.take (k + 1)).length = k + 1 := by rw [List.length_take]; omega
          refine ⟨0, by omega, by go_num, ?_, ?_, HWO.out.2, cur, ?_, hcs, ?_⟩
          · rw [Nat.add_zero, hstep, hlen]; go_num
          · rw [Nat.add_zero, hstep, hlen]; omega
          · rw [HWO.out.1, hh, hg]
          · rw [Nat.add_zero, hstep, hlen, List.take_append_drop]; exact htake
        case round =>
          obtain ⟨j, hgj, rfl, rfl, hkc, hgr, cur2, hg2, hcs2, ht2⟩ := hrel
          have hes : (compE (l.take (k + j + 2)) ++ l.drop (compE (l.take (k + j + 2))).length).length = l.length := by rw [List.length_append, List.length_drop]; omega
          by_cases hlt2 : k + j + 2 < l.length
          · obtain ⟨C2, hC2⟩ : ∃ C2 : World → Prop, C2 = fun w' => w'.heap[g]? = wr.heap[g]? := ⟨_, rfl⟩
            have hC20 : C2 wr.drew := by rw [hC2]; rfl
            have hC2i : ∀ w', C2 w' → w'.heap[g]? = wr.heap[g]? := fun w' h => by rw [hC2] at h; exact h
            have hrg : ∀ (p : Cls C2) (q : Nat) (e : Int × Int), k + j + 1 ≤ q → l[q]? = some e → p.w.cell? ⟨g, q * 2, none⟩ = some (Value.int .i64 e.1) ∧ p.w.cell? ⟨g, q * 2 + 1, none⟩ = some (Value.int .i64 e.2) := fun p q e hq hj => edge_range (edges_range ((hC2i _ p.h).trans hg2) (by rw [hes]; exact ht2) (by rw [comp_get (by omega)]; exact hj))
            have hl1 : l[k + j + 2]? = some l[k + j + 2] := List.getElem?_eq_getElem hlt2
            have hl0 : l[k + j + 1]? = some l[k + j + 1] := List.getElem?_eq_getElem (by omega)
            have hstep := compE_step (l := l) (m := k + j + 1) hlt2
            generalize l[k + j + 2] = e1 at hl1 hstep
            generalize l[k + j + 1] = e0 at hl0 hstep
            obtain ⟨a1, c1⟩ := e1
            obtain ⟨a0, c0⟩ := e0
            have x1 := fun p => (hrg p (k + j + 2) _ (by omega) hl1).1
            have x2 := fun p => (hrg p (k + j + 2) _ (by omega) hl1).2
            have x3 := fun p => (hrg p (k + j + 1) _ (by omega) hl0).1
            have x4 := fun p => (hrg p (k + j + 1) _ (by omega) hl0).2
            rw [show (k + j + 2) * 2 = (k + 1) * 2 + (j + 1) * 2 by omega] at x1 x2
            rw [show (k + j + 1) * 2 = (k + 1) * 2 + j * 2 by omega] at x3 x4
            dsimp only at x1 x2 x3 x4
            have HS2 := Lib.hid (And.intro hstep (And.intro hl1 hl0))
            have HR2 := Lib.hid (And.intro hgr (And.intro hg2 (And.intro hcs2 (And.intro ht2 hes))))
            have hglt : ∀ p : Cls C2, g < p.w.heap.size := fun p => cell_lt (x1 p)
            have hne : Nonempty (Cls C2) := ⟨⟨_, hC20⟩⟩
            generalize hkk : (compE (l.take (k + j + 2))).length = kc at hkc
            have HKK := Lib.hid hkk
            have hwj : IntKind.i64.wrap (j : Int) = (j : Int) := Go.Ab.wrap64_id (by omega) (by omega)
            have b5 : (0 : Int) ≤ (j : Int) := by omega
            have b6 : (0 : Int) ≤ (j : Int) + 1 := by omega
            have b7 : (j : Int) + 1 < ((l.length - (k + 1) : Nat) : Int) := by omega
            have b8 : (j : Int) < ((l.length - (k + 1) : Nat) : Int) := by omega
            have b9 : decide ((j : Int) + 1 < ((l.length - (k + 1) : Nat) : Int)) = true := by simp only [decide_eq_true_eq]; omega
            have hkn : kc * 2 + 1 < cur2.size := by
              have : l.length * 2 ≤ c * 2 := Nat.mul_le_mul_right _ hncap
              omega
            obtain ⟨o1, z1⟩ : ∃ o1, wr.cell? ⟨g, kc * 2, none⟩ = some o1 := by
              rw [cell_of_heap hg2, Array.getElem?_eq_getElem (by omega)]; exact ⟨_, rfl⟩
            obtain ⟨o2, z2⟩ : ∃ o2, wr.cell? ⟨g, kc * 2 + 1, none⟩ = some o2 := by
              rw [cell_of_heap hg2, Array.getElem?_eq_getElem (by omega)]; exact ⟨_, rfl⟩
            have z3 : wr.frozen? ⟨g, kc * 2, none⟩ = false := frozen_of_heap hg2
            have z4 : wr.frozen? ⟨g, kc * 2 + 1, none⟩ = false := frozen_of_heap hg2
            have b10 : (0 : Int) ≤ (kc : Int) := by omega
            have b11 : (kc : Int) < (l.length : Int) := by omega
            clear hstep hl1 hl0 hgr hrg hC2 hC2i hg2 hcs2 ht2 hes hkk hkn
            go_wp2_with (fail)
            refine wp_region_ord C2 99 [(0, true), (1, true), (2, true), (3, true), (4, true), (5, true), (6, true), (7, true), (8, true), (9, true)] (by kernel_rfl) (by kernel_rfl) hC20 ?_
            iterate 9 (refine wpOrd_pure rfl (fun _ _ _ _ h => h) (by rfl) (fun K hK => ?_); go_simp; refine hK _ ?_; clear hK K)
            refine wpOrd_pure rfl (fun _ _ _ _ h => h) (by rfl) (fun K hK => ?_); go_simp
            refine ⟨.bool (!decide ((a0, c0) = (a1, c1))), fun p => ?_, hK _ ?_⟩
            · by_cases h1 : a1 = a0 <;> by_cases h2 : c1 = c0 <;> simp [h1, h2, eq_comm]
            clear hK K hglt hne
            have y1 := x1 ⟨_, hC20⟩
            have y2 := x2 ⟨_, hC20⟩
            have ylt := cell_lt y1
            clear x1 x2 x3 x4
            refine wpOrd_nil ?_
            generalize hq : (!decide ((a0, c0) = (a1, c1))) = q
            cases q with
            | false =>
              have HQ := Lib.hid hq
              clear hq
              go_wp2_with (fail)
              go_roundg (gk - 1)
              case measure => omega
              case rel =>
                obtain ⟨hstep, hl1, hl0⟩ := HS2.out
                obtain ⟨hgr, hg2, hcs2, ht2, hes⟩ := HR2.out
                have heq : (a0, c0) = (a1, c1) := by simpa using HQ.out
                rw [if_pos heq] at hstep
                have e3 : l.take (k + (j + 1) + 2) = l.take (k + j + 1 + 2) := rfl
                have hkk := HKK.out
                refine ⟨j + 1, by omega, by go_num, ?_, ?_, grownBy_trans' hgr (drew_grownBy _ _), cur2, hg2, hcs2, ?_⟩
                · rw [e3, hstep, hkk]
                · rw [e3, hstep, hkk]; omega
                · rw [e3, hstep]; exact ht2
            | true =>
              have HQ := Lib.hid hq
              clear hq
              go_wp2_with (fail)
              go_roundg (gk - 1)
              case measure => omega
              case rel =>
                obtain ⟨hstep, hl1, hl0⟩ := HS2.out
                obtain ⟨hgr, hg2, hcs2, ht2, hes⟩ := HR2.out
                have heq : ¬ (a0, c0) = (a1, c1) := fun h => by have := HQ.out; rw [decide_eq_true h] at this; cases this
                have hcl2 : cur2.toList.length = c * 2 := by rw [Array.length_toList]; exact hcs2
                have hkl : kc < l.length := by omega
                rw [if_neg heq] at hstep
                have e3 : l.take (k + (j + 1) + 2) = l.take (k + j + 1 + 2) := rfl
                have e4 : (wr.setCell ⟨g, kc * 2, none⟩ (Value.int .i64 a1)).setCell ⟨g, kc * 2 + 1, none⟩ (Value.int .i64 c1) = wr.setCells g (kc * 2) (edgeCells (a1, c1)) := rfl
                have hn2 : l.length * 2 ≤ c * 2 := Nat.mul_le_mul_right _ hncap
                have h5 := heap_setCells_own g 74 (edgeCells (a1, c1)) (kc * 2) wr cur2 hg2 (by show kc * 2 + 2 ≤ _; omega)
                have h6 : (edgeCells (a1, c1)).length = 2 := rfl
                rw [h6] at h5
                have h7 := edges_put (cur := cur2.toList) (es := compE (l.take (k + j + 2)) ++ l.drop (compE (l.take (k + j + 2))).length) (n := l.length) (k := kc) (e := (a1, c1)) ht2 hes (by rw [hcl2]; exact hn2) hkl
                have h8 := comp_set (l := l) (m := k + j + 2) (e := (a1, c1)) (by omega) (by rw [HKK.out]; omega) hstep
                rw [HKK.out] at h8
                rw [HKK.out, h8] at h7
                have h9 : (compE (l.take (k + j + 2 + 1))).length = kc + 1 := by
                  have := congrArg List.length hstep
                  rw [List.length_append, HKK.out] at this
                  simpa using this
                refine ⟨j + 1, by omega, by go_num, ?_, ?_, ?_, _, (show _ = _ from h5), ?_, ?_⟩
                · rw [e3, h9]; go_num
                · rw [e3, h9]; omega
                · exact grownBy_trans' (grownBy_trans' hgr (setCells_grownBy g (edgeCells (a1, c1)) (kc * 2) wr)) (drew_grownBy _ _)
                · simp only [List.size_toArray, List.length_append, List.length_take, List.length_drop, Array.length_toList, h6]; omega
                · rw [e3]; exact h7
          · have hml : k + j + 2 = l.length := by omega
            rw [hml, List.take_length] at hkc ht2 ⊢
            generalize hkk : (compE l).length = kc at hkc ht2 ⊢
            have hkn : kc * 2 + (l.length - kc) * 2 = l.length * 2 := by omega
            have hn2 : l.length * 2 ≤ c * 2 := Nat.mul_le_mul_right _ hncap
            obtain ⟨i, hi, hzz⟩ := Option.map_eq_some_iff.1 info_Edge
            simp only [Prod.mk.injEq] at hzz
            have hv : ∀ w, (zeroValue 74).run Tryz.prog w = .ok zEdge w := fun w => by simp [zeroValue, typeInfo, hi, hzz.1]
            have hzl := zEdge_len (l.length - kc)
            have hclear := run_clear_cells (P := Tryz.prog) (n := l.length - kc) wr 23 74 0 zEdge Tryz.underlying23 hv (zEdge_one _) g (kc * 2) (c - kc) (by omega)
              (fun j hj => by rw [hzl] at hj; rw [cell_of_heap hg2, Array.getElem?_eq_getElem (by omega)]; rfl) (fun j hj => frozen_of_heap hg2)
            generalize (Builtin.zeroCells zEdge.cells (l.length - kc)).toList = zs at hclear hzl
            have h5 := heap_setCells_own g 74 zs (kc * 2) wr cur2 hg2 (by omega)
            have HF := Lib.hid (And.intro h5 (And.intro hgr (And.intro hcs2 (And.intro ht2 (And.intro hzl hkk)))))
            have b10 : (0 : Int) ≤ (kc : Int) := by omega
            have b11 : (kc : Int) ≤ (l.length : Int) := by omega
            have b12 : ¬ c = kc := by omega
            have b13 : kc ≤ l.length := by omega
            have b14 : kc ≤ c := by omega
            have b15 : decide ((j : Int) + 1 < ((l.length - (k + 1) : Nat) : Int)) = false := by simp only [decide_eq_false_iff_not]; omega
            clear h5 hgr hcs2 ht2 hzl hkk hg2 hv hi hzz hes
            go_wp2_with (fail)
            go_ret
            obtain ⟨h5, hgr, hcs2, ht2, hzl, hkk⟩ := HF.out
            obtain ⟨hg, hbg, hcs, htake, hcm2⟩ := HG.out
            rw [hkk]
            have hcl2 : cur2.toList.length = c * 2 := by rw [Array.length_toList]; exact hcs2
            refine ⟨rfl, ⟨by rw [edge_len, hkk], .inr ⟨g, c, _, rfl, hbg, h5, by omega, hcm2, ?_, ?_⟩⟩, grownBy_trans' hgr (setCells_grownBy g zs _ wr)⟩
            · simp only [List.size_toArray, List.length_append, List.length_take, List.length_drop, hcl2, hzl]; omega
            · rw [List.append_assoc, List.take_append_of_le_length (by rw [List.length_take, hcl2]; omega), List.take_take, Nat.min_self]
              have h8 := congrArg (List.take (kc * 2)) ht2
              rw [List.take_take, Nat.min_eq_left (by omega), List.map_append, List.flatten_append, List.take_append_of_le_length (by rw [edge_len, hkk]; exact Nat.le_refl _), List.take_of_length_le (l := ((compE l).map edgeCells).flatten) (by rw [edge_len, hkk]; exact Nat.le_refl _)] at h8
              exact h8
    · have hda : decide (((k + 1 : Nat) : Int) < (l.length : Int)) = false := by simp; omega
      go_wp2_with (fail)
      go_ret
      have hkl : k + 1 = l.length := by omega
      have hcl : compE l = l := by rw [hkl, List.take_length] at hck; exact hck
      obtain ⟨hg, hbg, hcs, htake, hcm2⟩ := HG.out
      rw [hcl]
      exact ⟨rfl, ⟨edge_len l, .inr ⟨g, c, cur, rfl, hbg, hh.trans hg, hncap, hcm2, hcs, htake⟩⟩, hgr⟩
end Go.Proofs.Lg
