/-
  Part GAU of this claim's proof. Joined by merge.py from the texts of wip/tpl.
-/
import Derived.Test.YtclholnhkhjjaaaGreatGAT
set_option linter.unusedVariables false
set_option linter.unusedSimpArgs false
set_option linter.unnecessarySimpa false
namespace Go.Proofs.Lg
open Go Go.Ab Go.Bb Go.Proofs.Lh
theorem filt_len {α : Type} (p : α → Bool) : ∀ l : List α, (l.filter p).length + (l.filter fun z => !p z).length = l.length
 | [] => rfl
 | x :: l => by
   have := filt_len p l
   cases h : p x <;> simp [h] <;> omega
theorem side_fn (vl ve : D) {n : Nat} {rows : List (List Bool)} (hq : Sq n rows) {x : Nat} {t : List Nat} (hl : ∀ j ∈ x :: t, j < n) (hll : t.length + 1 ≤ 1000000) : AFn Tryz.prog 87 [dOrd vl ve rows, dNats (x :: t)] (.tup [dNats (sideR rows (t.length + 2) 0 [x] t).1, dNats (sideR rows (t.length + 2) 0 [x] t).2]) := by
 generalize hR : sideR rows (t.length + 2) 0 [x] t = R
 refine AFn_of (F := k_refSide) (okb_refSide.trans (by kernel_rfl)) (by simp [k_refSide]) ?_
 have i1 : (1 : Int) ≤ ((t.length + 1 : Nat) : Int) := by omega
 have i0 : (0 : Int) ≤ (1 : Int) := by decide
 simp only [k_refSide, dOrd, dNats, dNat, dBool, i0, i1, nrow, Int.toNat_zero, Int.toNat_one, roomOk, ↓Both_true, ↓Both_false, wx, reduceCtorEq, reduceIte, Nat.reduceAdd, Nat.reduceEqDiff, Nat.reduceLT, Nat.reduceLeDiff, wj, ← List.map_take, ← List.map_drop]
 refine ⟨rfl, ?_⟩
 refine LoopK.at (fun b : Nat × List Nat × List Nat × AV × List AObj => [(8, .d (.sc (.int .i64 b.1))), (7, b.2.2.2.1), (2, .ptr 0 0), (6, .tsl 1 1 (b.2.1.map nrow))]) (fun b => .cells [.d vl, .d ve, .d (dRows rows)] :: .row 3 1 b.2.1.length :: b.2.2.2.2)
   (fun m b => m + b.1 = t.length + 2 ∧ sideR rows m b.1 b.2.1 b.2.2.1 = R ∧ (∀ j ∈ b.2.1, j < n) ∧ (∀ j ∈ b.2.2.1, j < n) ∧ b.2.1.length + b.2.2.1.length = t.length + 1 ∧ IsRow b.2.2.1 b.2.2.2.1) (t.length + 2) (0, [x], t, .d (.sl 1 (t.map nrow)), []) (by simp [SubB, Go.Bb.look, nrow]) rfl ⟨rfl, hR, by simpa using hl x (by simp), fun j hj => hl j (by simp [hj]), by simp; omega, .inl rfl⟩ ?_
 rintro m ⟨nn, inn, out, v, J⟩ ⟨hm, he, hl1, hl2, hlen, hv⟩
 dsimp only at hm he hl1 hl2 hlen hv ⊢
 clear hR hl i1 i0
 by_cases hlt : nn < inn.length
 · have h1 : decide ((nn : Int) < (inn.length : Int)) = true := by simpa using hlt
   have h2 : inn[nn]? = some inn[nn] := List.getElem?_eq_getElem hlt
   have h3 : IntKind.i64.wrap ((nn : Int) + 1) = ((nn + 1 : Nat) : Int) := wrapN (by omega) (by omega)
   have hyn := hl1 inn[nn] (List.getElem_mem _)
   generalize inn[nn] = y at h2 hyn
   have hstep : sideR rows (m - 1) (nn + 1) (inn ++ out.filter (adj rows y)) (out.filter fun z => !adj rows y z) = R := by
     obtain ⟨f, hf⟩ : ∃ f, m = f + 1 := ⟨m - 1, by omega⟩
     subst hf
     rw [← he]
     simp only [sideR, h2, Nat.add_sub_cancel]
   have hfl : (out.filter (adj rows y)).length + (out.filter fun z => !adj rows y z).length = out.length := filt_len _ _
   rcases hv with hv | ⟨id, hv⟩
   all_goals (
     simp only [hv, h1, roomOk, ↓Both_true, ↓Both_false, wx, reduceCtorEq, reduceIte, Nat.reduceAdd, Nat.reduceEqDiff, Nat.reduceLT, Nat.reduceLeDiff]
     refine LoopK.countJ (fun k => [(10, .d (.sc (.int .i64 k))), (8, .d (.sc (.int .i64 nn))), (7, v), (2, .ptr 0 0), (6, .tsl 1 1 ((inn ++ (out.take k).filter (adj rows y)).map nrow)), (9, .tsl (J.length + 1 + 1) 1 (((out.take k).filter fun z => !adj rows y z).map nrow))])
       (fun k K => .cells [.d vl, .d ve, .d (dRows rows)] :: .row 3 1 (inn ++ (out.take k).filter (adj rows y)).length :: (J ++ .row 3 1 ((out.take k).filter fun z => !adj rows y z).length :: K)) (fun _ => True) out.length [] (by simp [SubB, Go.Bb.look, hv]) (by simp) trivial fun k K hk _ => ?_
     by_cases hkt : k < out.length
     · have g1 : decide ((k : Int) < (out.length : Int)) = true := by simpa using hkt
       have g2 : out[k]? = some out[k] := List.getElem?_eq_getElem hkt
       have g3 : IntKind.i64.wrap ((k : Int) + 1) = ((k + 1 : Nat) : Int) := wrapN (by omega) (by omega)
       have g4 := filter_take (adj rows y) hkt
       have g5 := filter_take (fun z => !adj rows y z) hkt
       have g6 := filter_le (adj rows y) out k
       have g7 := filter_le (fun z => !adj rows y z) out k
       have g8 : (inn ++ (out.take k).filter (adj rows y))[nn]? = some y := by rw [List.getElem?_append_left hlt]; exact h2
       have hc := together_fn vl ve hq hyn (hl2 out[k] (List.getElem_mem _))
       rw [← adj_or] at hc
       generalize out[k] = z at g2 g4 g5 hc
       have g9 : (inn.length + ((out.take k).filter (adj rows y)).length + 1) * 8 ≤ 140737488355328 := by omega
       have g10 : inn.length + ((out.take k).filter (adj rows y)).length ≤ 9223372036854775806 := by omega
       have g11 : (((out.take k).filter fun z => !adj rows y z).length + 1) * 8 ≤ 140737488355328 := by omega
       have g12 : ((out.take k).filter fun z => !adj rows y z).length ≤ 9223372036854775806 := by omega
       simp only [hv, g1, g2, g8, nrow, roomOk, ↓Both_true, ↓Both_false, wx, reduceCtorEq, reduceIte, Nat.reduceAdd, Nat.reduceEqDiff, Nat.reduceLT, Nat.reduceLeDiff]
       refine CallM.data hc rfl ?_
       cases hb : adj rows y z with
       | true =>
         rw [hb, if_pos rfl] at g4
         simp only [hb, Bool.not_true] at g5
         rw [if_neg (by simp)] at g5
         simp only [hv, hb, g2, g3, g4, g5, hkt, g9, g10, dBool, nrow, List.map_append, roomOk, ↓Both_true, ↓Both_false, wx, reduceCtorEq, reduceIte, Nat.reduceAdd, Nat.reduceEqDiff, Nat.reduceLT, Nat.reduceLeDiff, wj, ← List.map_take, ← List.map_drop]
         exact ⟨rfl, _, rfl⟩
       | false =>
         rw [hb, if_neg (by simp)] at g4
         simp only [hb, Bool.not_false] at g5
         rw [if_pos (by trivial)] at g5
         simp only [hv, hb, g2, g3, g4, g5, hkt, g11, g12, dBool, nrow, List.map_append, roomOk, ↓Both_true, ↓Both_false, wx, reduceCtorEq, reduceIte, Nat.reduceAdd, Nat.reduceEqDiff, Nat.reduceLT, Nat.reduceLeDiff, wj, ← List.map_take, ← List.map_drop]
         exact ⟨rfl, _, rfl⟩
     · have g1 : decide ((k : Int) < (out.length : Int)) = false := by simpa using hkt
       have g2 : out.take k = out := List.take_of_length_le (by omega)
       simp only [hv, g1, g2, h3, roomOk, ↓Both_true, ↓Both_false, wx, reduceCtorEq, reduceIte, Nat.reduceAdd, Nat.reduceEqDiff, Nat.reduceLT, Nat.reduceLeDiff]
       refine ⟨m - 1, (nn + 1, inn ++ out.filter (adj rows y), out.filter (fun z => !adj rows y z), _, _), by omega, ⟨rfl, rfl, rfl⟩, by simp only [List.length_append]; rfl, by dsimp only; omega, hstep, ?_, fun j hj => hl2 j (List.mem_filter.1 hj).1, ?_, .inr ⟨_, rfl⟩⟩
       · intro j hj
         rcases List.mem_append.1 hj with hj | hj
         · exact hl1 j hj
         · exact hl2 j (List.mem_filter.1 hj).1
       · simp only [List.length_append]; omega)
 · have h1 : decide ((nn : Int) < (inn.length : Int)) = false := by simpa using hlt
   have h2 : inn[nn]? = none := List.getElem?_eq_none (by omega)
   have hR : R = (inn, out) := by
     rw [← he]
     cases m with
     | zero => rfl
     | succ m => simp only [sideR, h2]
   subst hR
   rcases hv with hv | ⟨id, hv⟩ <;> simp only [hv, h1, roomOk, ↓Both_true, ↓Both_false, wx, reduceCtorEq, reduceIte, Nat.reduceAdd, Nat.reduceEqDiff, Nat.reduceLT, Nat.reduceLeDiff]
end Go.Proofs.Lg

namespace Go.Proofs.Lg
open Go Go.Ab Go.Bb Go.Proofs.Lh
def posI (out : List Nat) (x : Nat) : Nat := (out.takeWhile fun y => decide (y < x)).length
def insI (out : List Nat) (x : Nat) : List Nat := out.take (posI out x) ++ x :: out.drop (posI out x)
def ascI (l : List Nat) : List Nat := l.foldl insI []
theorem posI_le (out : List Nat) (x : Nat) : posI out x ≤ out.length := (List.takeWhile_sublist _).length_le
theorem posI_lt : ∀ {out : List Nat} {x k : Nat}, k < posI out x → ∃ y, out[k]? = some y ∧ y < x
 | [], x, k, h => by simp [posI] at h
 | z :: out, x, k, h => by
   unfold posI at h
   by_cases hz : z < x
   · rw [List.takeWhile_cons_of_pos (by simpa using hz)] at h
     cases k with
     | zero => exact ⟨z, rfl, hz⟩
     | succ k => exact posI_lt (out := out) (k := k) (by simpa [posI] using h)
   · rw [List.takeWhile_cons_of_neg (by simpa using hz)] at h; simp at h
theorem posI_at : ∀ {out : List Nat} {x y : Nat}, out[posI out x]? = some y → x ≤ y
 | [], x, y, h => by simp [posI] at h
 | z :: out, x, y, h => by
   unfold posI at h
   by_cases hz : z < x
   · rw [List.takeWhile_cons_of_pos (by simpa using hz)] at h
     exact posI_at (out := out) (by simpa [posI] using h)
   · rw [List.takeWhile_cons_of_neg (by simpa using hz)] at h; simp at h; omega
theorem insI_length (out : List Nat) (x : Nat) : (insI out x).length = out.length + 1 := by
 have := posI_le out x
 unfold insI; simp; omega
theorem ascI_take {l : List Nat} {k : Nat} (hk : k < l.length) : ascI (l.take (k + 1)) = insI (ascI (l.take k)) l[k] := by
 rw [List.take_succ_eq_append_getElem hk]
 unfold ascI
 rw [List.foldl_append]; rfl
theorem ascI_len : ∀ (l : List Nat) (k : Nat), k ≤ l.length → (ascI (l.take k)).length = k
 | l, 0, _ => rfl
 | l, k + 1, h => by rw [ascI_take (by omega), insI_length, ascI_len l k (by omega)]
theorem ascending_fn (l : List Nat) (hll : l.length ≤ 1000000) : AFn Tryz.prog 88 [dNats l] (dNats (ascI l)) := by
 refine AFn_of (F := k_refAscending) (okb_refAscending.trans (by kernel_rfl)) (by simp [k_refAscending]) ?_
 simp only [k_refAscending, dNats, dNat, dBool, roomOk, ↓Both_true, ↓Both_false, wx, reduceCtorEq, reduceIte, Nat.reduceAdd, Nat.reduceEqDiff, Nat.reduceLT, Nat.reduceLeDiff]
 refine LoopK.at (fun b : Nat × AV × List AObj => [(4, .d (.sc (.int .i64 b.1))), (3, b.2.1), (0, .d (.sl 1 (l.map nrow)))]) (fun b => b.2.2)
   (fun m b => m + b.1 = l.length ∧ IsRow (ascI (l.take b.1)) b.2.1) l.length (0, .tsl 0 1 [], [.row 3 1 0]) (by simp [SubB, Go.Bb.look]) rfl ⟨rfl, .inr ⟨_, rfl⟩⟩ ?_
 rintro m ⟨i, v, J⟩ ⟨hm, hv⟩
 dsimp only at hm hv ⊢
 have hol := ascI_len l i (by omega)
 by_cases hlt : i < l.length
 · have h1 : decide ((i : Int) < (l.length : Int)) = true := by simpa using hlt
   have h2 : l[i]? = some l[i] := List.getElem?_eq_getElem hlt
   have h3 : IntKind.i64.wrap ((i : Int) + 1) = ((i + 1 : Nat) : Int) := wrapN (by omega) (by omega)
   have h4 := ascI_take hlt
   generalize ascI (l.take i) = out at hol h4 hv
   generalize l[i] = x at h2 h4
   have hpl := posI_le out x
   have hfin : ∀ {k : Nat}, k = posI out x → ∀ {id : Nat} {J' : List AObj}, ∃ (m' : Nat) (b' : Nat × AV × List AObj), m' < m ∧ (((i + 1 : Nat) : Int) = (b'.1 : Int) ∧ AV.tsl id 1 ((out.take k).map nrow ++ ([.sc (.int .i64 x)] :: (out.drop k).map nrow)) = b'.2.1) ∧ J' = b'.2.2 ∧ m' + b'.1 = l.length ∧ IsRow (ascI (l.take b'.1)) b'.2.1 := by
     intro k hk id J'
     subst hk
     refine ⟨m - 1, (i + 1, _, _), by omega, ⟨rfl, rfl⟩, rfl, by dsimp only; omega, .inr ⟨id, ?_⟩⟩
     dsimp only
     rw [h4, insI, List.map_append]; rfl
   rcases hv with hv | ⟨id, hv⟩
   all_goals (
     simp only [hv, h1, roomOk, ↓Both_true, ↓Both_false, wx, reduceCtorEq, reduceIte, Nat.reduceAdd, Nat.reduceEqDiff, Nat.reduceLT, Nat.reduceLeDiff]
     refine LoopK.count (fun k => [(5, .d (.sc (.int .i64 k))), (4, .d (.sc (.int .i64 i))), (3, v), (0, .d (.sl 1 (l.map nrow)))]) (fun _ => J) (fun _ => True) (posI out x) (by simp [SubB, Go.Bb.look, hv]) rfl trivial fun k hk _ => ?_
     have g3 : IntKind.i64.wrap ((k : Int) + 1) = ((k + 1 : Nat) : Int) := wrapN (by omega) (by omega)
     have i1 : (k : Int) ≤ (out.length : Int) := by omega
     have i3 : (out.take k).length * 8 ≤ 140737488355328 := by simp; omega
     have i4 : (out.take k).length ≤ 9223372036854775807 := by simp; omega
     have i5 : ((out.take k).length + 1) * 8 ≤ 140737488355328 := by simp; omega
     have i6 : (out.take k).length ≤ 9223372036854775806 := by simp; omega
     have i7 : ((out.take k).length + 1 + (out.drop k).length) * 8 ≤ 140737488355328 := by simp; omega
     have i8 : (out.take k).length + 1 + (out.drop k).length ≤ 9223372036854775807 := by simp; omega
     by_cases hkp : k < posI out x
     · obtain ⟨y, g2, hyx⟩ := posI_lt hkp
       have g1 : decide ((k : Int) < (out.length : Int)) = true := by simp; omega
       have g4 : decide ((y : Int) < (x : Int)) = true := by simpa using hyx
       simp only [hv, g1, g2, g3, g4, h2, hkp, nrow, roomOk, ↓Both_true, ↓Both_false, wx, reduceCtorEq, reduceIte, Nat.reduceAdd, Nat.reduceEqDiff, Nat.reduceLT, Nat.reduceLeDiff]
       rfl
     · have hke : k = posI out x := by omega
       cases g1 : decide ((k : Int) < (out.length : Int)) with
       | true =>
         have hkl : k < out.length := by simpa using g1
         have g2 : out[k]? = some out[k] := List.getElem?_eq_getElem hkl
         have g5 : x ≤ out[k] := posI_at (out := out) (by rw [← hke]; exact g2)
         generalize out[k] = y at g2 g5
         have g4 : decide ((y : Int) < (x : Int)) = false := by simpa using g5
         simp only [hv, g1, g2, g3, g4, h2, h3, i1, i3, i4, i5, i6, i7, i8, nrow, roomOk, ↓Both_true, ↓Both_false, wx, reduceCtorEq, reduceIte, Nat.reduceAdd, Nat.reduceEqDiff, Nat.reduceLT, Nat.reduceLeDiff, wj, ← List.map_take, ← List.map_drop]
         exact ⟨(ordF_coarse (by simp only [List.map_cons, List.map_nil, coarse_rd, coarse_wr]; rfl)), (ordF_coarse (by simp only [List.map_cons, List.map_nil, coarse_rd, coarse_wr]; rfl)), hfin hke⟩
       | false =>
         simp only [hv, g1, g3, h2, h3, i1, i3, i4, i5, i6, i7, i8, nrow, roomOk, ↓Both_true, ↓Both_false, wx, reduceCtorEq, reduceIte, Nat.reduceAdd, Nat.reduceEqDiff, Nat.reduceLT, Nat.reduceLeDiff, wj, ← List.map_take, ← List.map_drop]
         exact ⟨(ordF_coarse (by simp only [List.map_cons, List.map_nil, coarse_rd, coarse_wr]; rfl)), (ordF_coarse (by simp only [List.map_cons, List.map_nil, coarse_rd, coarse_wr]; rfl)), hfin hke⟩)
 · have h1 : decide ((i : Int) < (l.length : Int)) = false := by simpa using hlt
   have h2 : l.take i = l := List.take_of_length_le (by omega)
   rw [h2] at hv
   rcases hv with hv | ⟨id, hv⟩ <;> simp only [hv, h1, roomOk, ↓Both_true, ↓Both_false, wx, reduceCtorEq, reduceIte, Nat.reduceAdd, Nat.reduceEqDiff, Nat.reduceLT, Nat.reduceLeDiff]
end Go.Proofs.Lg

namespace Go.Proofs.Lg
open Go Go.Ab Go.Bb Go.Proofs.Lh
theorem insI_perm (out : List Nat) (x : Nat) : (insI out x).Perm (x :: out) := by
 unfold insI
 refine List.perm_middle.trans ?_
 rw [List.take_append_drop]
theorem posI_cons_lt {z x : Nat} {out : List Nat} (h : z < x) : posI (z :: out) x = posI out x + 1 := by
 unfold posI; rw [List.takeWhile_cons_of_pos (by simpa using h)]; rfl
theorem posI_cons_ge {z x : Nat} {out : List Nat} (h : ¬ z < x) : posI (z :: out) x = 0 := by
 unfold posI; rw [List.takeWhile_cons_of_neg (by simpa using h)]; rfl
theorem insI_sorted : ∀ {out : List Nat} {x : Nat}, out.Pairwise (· ≤ ·) → (insI out x).Pairwise (· ≤ ·)
 | [], x, _ => by simp [insI, posI]
 | z :: out, x, h => by
   obtain ⟨h1, h2⟩ := List.pairwise_cons.1 h
   by_cases hz : z < x
   · have : insI (z :: out) x = z :: insI out x := by unfold insI; rw [posI_cons_lt hz]; rfl
     rw [this, List.pairwise_cons]
     refine ⟨fun y hy => ?_, insI_sorted h2⟩
     rcases List.mem_cons.1 ((insI_perm out x).mem_iff.1 hy) with rfl | hy
     · omega
     · exact h1 y hy
   · have : insI (z :: out) x = x :: z :: out := by unfold insI; rw [posI_cons_ge hz]; rfl
     rw [this, List.pairwise_cons]
     refine ⟨fun y hy => ?_, h⟩
     rcases List.mem_cons.1 hy with rfl | hy
     · omega
     · have := h1 y hy; omega
theorem ascI_ok (l : List Nat) : ∀ (out : List Nat), out.Pairwise (· ≤ ·) → (l.foldl insI out).Pairwise (· ≤ ·) ∧ (l.foldl insI out).Perm (l ++ out) := by
 induction l with
 | nil => exact fun out h => ⟨h, List.Perm.refl _⟩
 | cons x l ih =>
   intro out h
   obtain ⟨h1, h2⟩ := ih (insI out x) (insI_sorted h)
   refine ⟨h1, h2.trans ?_⟩
   refine ((insI_perm out x).append_left l).trans ?_
   exact List.perm_middle
theorem sortI_le (l : List Nat) : (sortI l).Pairwise (· ≤ ·) := by
 have := List.pairwise_mergeSort (le := fun a b : Nat => decide (a ≤ b)) (fun a b c h1 h2 => by simp at *; omega) (fun a b => by simp; omega) l
 exact this.imp fun h => by simpa using h
theorem ascI_sortI (l : List Nat) : ascI l = sortI l := by
 obtain ⟨h1, h2⟩ := ascI_ok l [] .nil
 rw [List.append_nil] at h2
 exact (h2.trans (sortI_perm l).symm).eq_of_pairwise (le := (· ≤ ·)) (fun a b _ _ h3 h4 => Nat.le_antisymm h3 h4) h1 (sortI_le l)
theorem sideR_mem {rows : List (List Bool)} : ∀ (f n : Nat) (inn out : List Nat), (sideR rows f n inn out).1.length + (sideR rows f n inn out).2.length = inn.length + out.length ∧ (sideR rows f n inn out).2.length ≤ out.length ∧ (∀ y ∈ (sideR rows f n inn out).1, y ∈ inn ∨ y ∈ out) ∧ ∀ y ∈ (sideR rows f n inn out).2, y ∈ out
 | 0, n, inn, out => ⟨rfl, Nat.le_refl _, fun _ h => .inl h, fun _ h => h⟩
 | f + 1, n, inn, out => by
   unfold sideR
   split
   · exact ⟨rfl, Nat.le_refl _, fun _ h => .inl h, fun _ h => h⟩
   · rename_i x hx
     obtain ⟨h1, h2, h3, h4⟩ := sideR_mem (rows := rows) f (n + 1) (inn ++ out.filter (adj rows x)) (out.filter fun y => !adj rows x y)
     have h5 := filt_len (adj rows x) out
     refine ⟨by rw [h1, List.length_append]; omega, by omega, fun y hy => ?_, fun y hy => (List.mem_filter.1 (h4 y hy)).1⟩
     rcases h3 y hy with h | h
     · rcases List.mem_append.1 h with h | h
       · exact .inl h
       · exact .inr (List.mem_filter.1 h).1
     · exact .inr (List.mem_filter.1 h).1
def srow (s : List Nat) : List D := [dNats s]
def dReg (r : Reg) : List D := [.sc (.bool r.conflict), dNats r.lines, .sl 1 (r.sides.map srow)]
def confS (A R : AObj) (done : List (List Nat)) (j : AObj) (J : List AObj) : List AObj :=
 if done = [] then [A, R, .cells [.d (.sc (.bool true)), .nil 1, .nil 1]] else A :: R :: .cells [.d (.sc (.bool true)), .nil 1, .tsl 4 1 (done.map srow)] :: j :: .row 29 1 done.length :: J
theorem confS_nil (A R j : AObj) (J : List AObj) : confS A R [] j J = [A, R, .cells [.d (.sc (.bool true)), .nil 1, .nil 1]] := if_pos rfl
theorem confS_cons (A R : AObj) {done : List (List Nat)} (h : done ≠ []) (j : AObj) (J : List AObj) : confS A R done j J = A :: R :: .cells [.d (.sc (.bool true)), .nil 1, .tsl 4 1 (done.map srow)] :: j :: .row 29 1 done.length :: J := if_neg h
theorem conflict_fn (vl ve : D) {n : Nat} {rows : List (List Bool)} (ht : TransR n rows) (hq : Sq n rows) {gap : List Nat} (hl : ∀ j ∈ gap, j < n) (hll : gap.length ≤ 1000000) : AFn Tryz.prog 45 [dOrd vl ve rows, dNats gap] (.agg (dReg ⟨true, [], confR rows gap.length gap⟩)) := by
 generalize hR : confR rows gap.length gap = R
 refine AFn_of (F := k_refConflict) (okb_refConflict.trans (by kernel_rfl)) (by simp [k_refConflict]) ?_
 simp only [k_refConflict, dOrd, dNats, dNat, dBool, nrow, roomOk, ↓Both_true, ↓Both_false, wx, reduceCtorEq, reduceIte, Nat.reduceAdd, Nat.reduceEqDiff, Nat.reduceLT, Nat.reduceLeDiff, wj, ← List.map_take, ← List.map_drop]
 refine LoopK.at (fun b : List (List Nat) × List Nat × AObj × List AObj => [(1, .d (.sl 1 (b.2.1.map nrow))), (2, .ptr 0 0), (4, .ptr 1 0), (5, .ptr 2 0)]) (fun b => confS (.cells [.d vl, .d ve, .d (dRows rows)]) (.cells [.d (.sc (.bool false)), .nil 1, .nil 1]) b.1 b.2.2.1 b.2.2.2)
   (fun m b => b.2.1.length ≤ m ∧ b.1 ++ confR rows m b.2.1 = R ∧ (∀ j ∈ b.2.1, j < n) ∧ b.1.length + b.2.1.length ≤ 1000000) gap.length ([], gap, .row 0 0 0, []) (by simp [SubB, Go.Bb.look]) rfl ⟨Nat.le_refl _, hR, hl, by simpa using hll⟩ ?_
 clear hR hl hll
 rintro m ⟨done, gap, j, J⟩ ⟨hm, he, hl, hlen⟩
 dsimp only at hm he hl hlen ⊢
 cases gap with
 | nil =>
   have h1 : decide (((0 : Nat) : Int) > 0) = false := by decide
   have hR : done = R := by rw [← he]; cases m <;> simp [confR]
   subst hR
   by_cases hd : done = []
   · subst hd
     simp only [confS_nil, h1, dReg, dNats, roomOk, ↓Both_true, ↓Both_false, wx, reduceCtorEq, reduceIte, Nat.reduceAdd, Nat.reduceEqDiff, Nat.reduceLT, Nat.reduceLeDiff]
   · simp only [confS_cons _ _ hd, h1, dReg, dNats, roomOk, ↓Both_true, ↓Both_false, wx, reduceCtorEq, reduceIte, Nat.reduceAdd, Nat.reduceEqDiff, Nat.reduceLT, Nat.reduceLeDiff]
 | cons x t =>
   obtain ⟨f, rfl⟩ : ∃ f, m = f + 1 := ⟨m - 1, by rw [List.length_cons] at hm; omega⟩
   simp only [List.length_cons] at hm hlen
   have h1 : decide (((t.length + 1 : Nat) : Int) > 0) = true := by simp
   have hc := side_fn vl ve hq hl (by omega)
   rw [confR] at he
   obtain ⟨k1, k2, k3, k4⟩ := sideR_mem (rows := rows) (t.length + 2) 0 [x] t
   generalize sideR rows (t.length + 2) 0 [x] t = sd at hc he k1 k2 k3 k4
   obtain ⟨a, b⟩ := sd
   dsimp only at hc he k1 k2 k3 k4
   simp only [List.length_cons, List.length_nil] at k1
   have ha : ∀ j ∈ a, j < n := fun j hj => by
     rcases k3 j hj with h | h
     · exact hl j (by simp at h; simp [h])
     · exact hl j (by simp [h])
   have hc2 := ascending_fn a (by omega)
   rw [ascI_sortI] at hc2
   have hc3 := arranged_fn vl ve ht hq (l := sortI a) (fun j hj => ha j ((sortI_perm a).mem_iff.1 hj)) (by rw [sortI_length]; omega)
   have he2 : arrN rows (sortI a).length (sortI a) = arrL rows a := rfl
   rw [he2] at hc3
   by_cases hd : done = []
   · subst hd
     simp only [confS_nil, h1, nrow, dNats, roomOk, ↓Both_true, ↓Both_false, wx, reduceCtorEq, reduceIte, Nat.reduceAdd, Nat.reduceEqDiff, Nat.reduceLT, Nat.reduceLeDiff, wj, ← List.map_take, ← List.map_drop]
     refine CallM.data hc rfl ?_
     simp only [nrow, dNats, dOrd, roomOk, ↓Both_true, ↓Both_false, wx, reduceCtorEq, reduceIte, Nat.reduceAdd, Nat.reduceEqDiff, Nat.reduceLT, Nat.reduceLeDiff, wj, ← List.map_take, ← List.map_drop]
     refine CallM.data hc2 rfl ?_
     simp only [nrow, dNats, dOrd, roomOk, ↓Both_true, ↓Both_false, wx, reduceCtorEq, reduceIte, Nat.reduceAdd, Nat.reduceEqDiff, Nat.reduceLT, Nat.reduceLeDiff, wj, ← List.map_take, ← List.map_drop]
     refine CallM.data hc3 rfl ?_
     simp only [nrow, dNats, dOrd, Nat.reduceMul, roomOk, ↓Both_true, ↓Both_false, wx, reduceCtorEq, reduceIte, Nat.reduceAdd, Nat.reduceEqDiff, Nat.reduceLT, Nat.reduceLeDiff, wj, ← List.map_take, ← List.map_drop]
     refine ⟨rfl, f, ([arrL rows a], b, .row 29 1 1, []), by omega, rfl, ?_, by dsimp only; omega, he, fun j hj => hl j (by simp [k4 j hj]), by simp at hlen ⊢; omega⟩
     rw [confS, if_neg (by simp)]
     rfl
   · have i1 : (done.length + 1) * 24 ≤ 140737488355328 := by omega
     have i2 : done.length ≤ 9223372036854775806 := by omega
     simp only [confS_cons _ _ hd, h1, nrow, dNats, roomOk, ↓Both_true, ↓Both_false, wx, reduceCtorEq, reduceIte, Nat.reduceAdd, Nat.reduceEqDiff, Nat.reduceLT, Nat.reduceLeDiff, wj, ← List.map_take, ← List.map_drop]
     refine CallM.data hc rfl ?_
     simp only [nrow, dNats, dOrd, roomOk, ↓Both_true, ↓Both_false, wx, reduceCtorEq, reduceIte, Nat.reduceAdd, Nat.reduceEqDiff, Nat.reduceLT, Nat.reduceLeDiff, wj, ← List.map_take, ← List.map_drop]
     refine CallM.data hc2 rfl ?_
     simp only [nrow, dNats, dOrd, roomOk, ↓Both_true, ↓Both_false, wx, reduceCtorEq, reduceIte, Nat.reduceAdd, Nat.reduceEqDiff, Nat.reduceLT, Nat.reduceLeDiff, wj, ← List.map_take, ← List.map_drop]
     refine CallM.data hc3 rfl ?_
     simp only [i1, i2, nrow, dNats, dOrd, Nat.reduceMul, roomOk, ↓Both_true, ↓Both_false, wx, reduceCtorEq, reduceIte, Nat.reduceAdd, Nat.reduceEqDiff, Nat.reduceLT, Nat.reduceLeDiff, wj, ← List.map_take, ← List.map_drop]
     refine ⟨rfl, f, (done ++ [arrL rows a], b, j, J ++ [.row 29 1 1]), by omega, rfl, ?_, by dsimp only; omega, by dsimp only; rw [List.append_assoc]; exact he, fun j hj => hl j (by simp [k4 j hj]), by simp at hlen ⊢; omega⟩
     rw [confS, if_neg (by simp)]
     simp only [List.map_append, List.length_append]
     rfl
end Go.Proofs.Lg
