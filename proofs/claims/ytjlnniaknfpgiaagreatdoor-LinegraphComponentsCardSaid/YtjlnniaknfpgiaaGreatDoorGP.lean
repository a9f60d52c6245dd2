/-
  Part GP of this claim's proof. Joined by merge.py from the texts of wip/tpl.
-/
import Derived.Test.YtjlnniaknfpgiaaGreatDoorGO
import Derived.Lib.Overlaps
import Derived.Laws.Externs
import Derived.Laws.IdiomCopy
import Derived.Lib.AppendZeros
set_option linter.unusedVariables false
set_option linter.unusedSimpArgs false
set_option linter.unnecessarySimpa false
set_option linter.unusedVariables false
namespace Go.Proofs.Lh
open Go Go.Ab Go.Bb Go.RowKit Go.Proofs.Lg

theorem info_Stored : ∃ i z, Tryz.prog.info? 98 = some i ∧ i.size = 37 ∧ i.zero = some z ∧ z.cells.size = 37 ∧ (∀ u ∈ z.cells, u.oneCell' = true) ∧ 0 < i.bytes ∧ i.bytes ≤ 1000 := by
  have h : (Tryz.prog.info? 98).elim false (fun i => i.size == 37 && decide (0 < i.bytes) && decide (i.bytes ≤ 1000) && i.zero.elim false fun z => z.cells.size == 37 && z.cells.all (·.oneCell')) = true := by kernel_rfl
  cases hi : Tryz.prog.info? 98 with
  | none => rw [hi] at h; cases h
  | some i =>
    rw [hi] at h
    cases hz : i.zero with
    | none => simp [hz] at h
    | some z =>
      simp [hz] at h
      exact ⟨i, z, rfl, h.1.1.1, hz, h.2.1, fun u hu => by obtain ⟨j, hj, rfl⟩ := Array.mem_iff_getElem.1 hu; exact h.2.2 j hj, h.1.1.2, h.1.2⟩

set_option maxHeartbeats 400000 in
set_option maxRecDepth 100000 in
/-- At the end: an append. -/
theorem Insert_end (w : World) (a : Option Addr) (n c : Nat) (av : Option Addr) (cv : Nat) {v' : Value} {w2 : World} (hnc : n ≤ c)
    (hr : ∀ ty, (Builtin.append_ #[46, 45] ty #[.slice a n c, .slice av 1 cv]).run Tryz.prog w = .ok v' w2) :
    Calls Tryz.prog 62 #[.slice a n c, .int .i64 n, .slice av 1 cv] w fun e w' => e = .returned v' ∧ w' = w2 := by
  go_enter Tryz.func62, Tryz.ntmps62
  go_wp2_with (at_builtin; refine Go.Lib.wpList_append_run _ rfl _ _ _ _ rfl _ _ rfl rfl _ _ (hr _) ?_)
  all_goals (go_ret; exact ⟨rfl, rfl⟩)

theorem run_copyN {P : Program} (w : World) (t t' ty e : TypeId) (i : TypeInfo) (ht : P.underlying t = some (.slice e)) (hi : P.info? e = some i) (g o dLen dc : Nat) (cur : Array Value) (T : TypeId) (hg : w.heap[g]? = some (.cells cur T (0, 0))) (a : Addr) (sLen sc k : Nat) (news : List Value) (hk : Nat.min sLen dLen = k) (hl : news.length = k * i.size)
    (hn : ∀ j u, news[j]? = some u → w.cell? (a.add j) = some u) (h1 : ∀ u ∈ news, u.oneCell' = true) (hfit : o + news.length ≤ cur.size) :
    (Builtin.copy_ #[t, t'] ty #[.slice (some ⟨g, o, none⟩) dLen dc, .slice (some a) sLen sc]).run P w = .ok (goInt k) (w.setRow g (cur.toList.take o ++ news ++ cur.toList.drop (o + news.length)).toArray) := by
  have hst := run_storeCells_at P g o T news 0 cur w hg (by simpa using hfit) h1
  simp only [Nat.add_zero] at hst
  have hf := run_firstCells_some (P := P) w i.size k a sLen sc news hl hn
  subst hk
  simp [Builtin.copy_, run_underlying ht, Builtin.lenOf, sizeOf, typeInfo, hi, hf, hst]

theorem wp_copy_run (w : World) {P : Program} {o : Oper} {a : Act} {K : Act → World → Prop} {Q : Exit → Act → World → Prop} (d s : Operand) (t t' : TypeId)
    (ho : o.op = .call { callee := .builtin .copy, args := #[d, s], argTypes := #[t, t'] }) (v u : Value) (hd : a.eval d = v) (hs : a.eval s = u) {v' : Value} {w' : World}
    (hr : (Builtin.copy_ #[t, t'] o.type #[v, u]).run P w = .ok v' w') (h : K (a.put o.dst v') w') : o.wp P a w K Q := by
  unfold Oper.wp execOp
  simp only [ho, resolve, invoke, builtin, Sem.run_bind, Sem.run_pure, Result.andThen_ok, List.map_toArray, List.map_cons, List.map_nil, hd, hs, hr]
  exact h
theorem wpList_copy_run (w : World) {P : Program} {ops : Array Oper} {rest : List Oper} {o : Oper} {a : Act} {Q : Exit → Act → World → Prop} (hgd : o.guard = none) (d s : Operand) (t t' : TypeId)
    (ho : o.op = .call { callee := .builtin .copy, args := #[d, s], argTypes := #[t, t'] }) (v u : Value) (hd : a.eval d = v) (hs : a.eval s = u) {v' : Value} {w' : World}
    (hr : (Builtin.copy_ #[t, t'] o.type #[v, u]).run P w = .ok v' w') (h : wpList P ops Q rest (a.put o.dst v') w') : wpList P ops Q (o :: rest) a w :=
  wpList_plain hgd fun _ hK => wp_copy_run w d s t t' ho v u hd hs hr (hK _ _ h)
theorem step_copy_run {P : Program} {ops : Array Oper} {o : Oper} {a : Act} {w : World} {K : Act → World → Prop} {Q : Exit → Act → World → Prop} {E : Prop}
    (hg : o.guard = none) (d x : Operand) (dT sT : TypeId) (hop : o.op = Op.call { callee := Callee.builtin Builtin.copy, args := #[d, x], argTypes := #[dT, sT] })
    (v u : Value) (hd : a.eval d = v) (hx : a.eval x = u) {v' : Value} {w' : World} (hr : (Builtin.copy_ #[dT, sT] o.type #[v, u]).run P w = .ok v' w') (hK : K (a.put o.dst v') w') :
    if Region.wanted o (yielded ops a.tmps) = true then Oper.wp P o a w K Q else E := by
  have hw : Region.wanted o (yielded ops a.tmps) = true := by simp [Region.wanted, hg]
  rw [if_pos hw]
  exact wp_copy_run w d x dT sT hop v u hd hx hr hK

set_option maxHeartbeats 4000000 in
set_option maxRecDepth 100000 in
theorem Insert_room (w : World) (g n c i h cv hc2 : Nat) (cur cur2 : Array Value) (us news : List Value) (hi : i < n) (hroom : n + 1 ≤ c) (hcm : c ≤ 9223372036854775807) (hgh : h ≠ g) (hg : w.heap[g]? = some (.cells cur 98 (0, 0))) (hcs : cur.size = c * 37) (hus : cur.toList.take (n * 37) = us) (hone : ∀ u ∈ us, u.oneCell' = true)
    (hh : w.heap[h]? = some (.cells cur2 98 (0, 0))) (hc2s : cur2.size = hc2 * 37) (hc2p : 1 ≤ hc2) (hnews : cur2.toList.take 37 = news) (hone2 : ∀ u ∈ news, u.oneCell' = true) :
    Calls Tryz.prog 62 #[.slice (some ⟨g, 0, none⟩) n c, .int .i64 i, .slice (some ⟨h, 0, none⟩) 1 cv] w fun e w' => e = .returned (.slice (some ⟨g, 0, none⟩) (n + 1) c) ∧
      ∃ A : Array Value, w' = w.drew.setRow g A ∧ A.size = c * 37 ∧ A.toList.take ((n + 1) * 37) = us.take (i * 37) ++ news ++ us.drop (i * 37) := by
  obtain ⟨inf, z, hinf, hsz, _⟩ := info_Stored
  have hov : ∀ lb cb, (callFunc 95 #[.slice (some ⟨h, 0, none⟩) 1 cv, .slice (some ⟨g, (i + 1) * 37, none⟩) lb cb]).run Tryz.prog w = .ok (.value (.bool false)) w := fun lb cb => by
    rw [run_callFunc_extern Tryz.func95 (by kernel_rfl) (by kernel_rfl) (by kernel_rfl) (e := Extern.SlicesOverlaps.overlaps #[45, 45] #[4]) (by kernel_rfl),
      Go.Lib.run_overlaps_apart w 45 4 98 Tryz.underlying45 37 (fun w => by simp [sizeOf, typeInfo, hinf, hsz]) ⟨h, 0, none⟩ ⟨g, (i + 1) * 37, none⟩ 1 cv lb cb hgh 98 98 cur2.size cur.size (by simp [World.shape?, hh]) (by simp [World.shape?, hg]) (by omega) (by simp [World.frozen?, hh]) (by simp [World.frozen?, hh])]
    rfl
  have hz2 : ¬ ((i : Int) = (n : Int)) := by omega
  have hw1 : IntKind.i64.wrap ((i : Int) + 1) = (i : Int) + 1 := by rw [IntKind.wrap_i64]; omega
  have hw2 : IntKind.i64.wrap ((n : Int) + 1) = (n : Int) + 1 := by rw [IntKind.wrap_i64]; omega
  have hb1 : (0 : Int) ≤ (i : Int) + 1 := by omega
  have hin : i ≤ n := by omega
  have htn : ((i : Int) + 1).toNat = i + 1 := by omega
  have hb2 : ¬ (c = i + 1) := by omega
  have hb3 : (i : Int) ≤ (n : Int) + 1 := by omega
  have hb4 : ¬ (c = i) := by omega
  have hcap : ¬ ((c : Int) < (n : Int) + 1) := by omega
  have hul : us.length = n * 37 := by rw [← hus, List.length_take, Array.length_toList, hcs]; omega
  have hnl : news.length = 37 := by rw [← hnews, List.length_take, Array.length_toList, hc2s]; omega
  have hdl : (us.drop (i * 37)).length = (n - i) * 37 := by rw [List.length_drop, hul]; omega
  have hgd : w.drew.heap[g]? = some (.cells cur 98 (0, 0)) := hg
  have hcp1 : ∀ ty dc sc, (Builtin.copy_ #[46, 46] ty #[.slice (some ⟨g, (i + 1) * 37, none⟩) (n - i) dc, .slice (some ⟨g, i * 37, none⟩) (n + 1 - i) sc]).run Tryz.prog w.drew = .ok (goInt (n - i : Nat)) (w.drew.setRow g (cur.toList.take ((i + 1) * 37) ++ us.drop (i * 37) ++ cur.toList.drop ((i + 1) * 37 + (us.drop (i * 37)).length)).toArray) := fun ty dc sc =>
    run_copyN (P := Tryz.prog) w.drew 46 46 ty 98 inf Tryz.underlying46 hinf g ((i + 1) * 37) (n - i) dc cur 98 hgd ⟨g, i * 37, none⟩ (n + 1 - i) sc (n - i) (us.drop (i * 37)) (by simp only [Nat.min_def]; split <;> omega) (by rw [hsz]; exact hdl)
      (fun j u hj => by
        rw [Addr.add_mid, World.cell?_drew, cell_of_row w g _ cur _ _ hg]
        rw [List.getElem?_drop, ← hus, List.getElem?_take] at hj
        split at hj
        · simpa using hj
        · cases hj) (fun u hu => hone u (List.mem_of_mem_drop hu)) (by rw [hdl, hcs]; omega)
  have hA1l : (cur.toList.take ((i + 1) * 37) ++ us.drop (i * 37) ++ cur.toList.drop ((i + 1) * 37 + (us.drop (i * 37)).length)).length = c * 37 := by
    simp only [List.length_append, List.length_take, List.length_drop, Array.length_toList, hcs, hul]; omega
  have hA1t : (cur.toList.take ((i + 1) * 37) ++ us.drop (i * 37) ++ cur.toList.drop ((i + 1) * 37 + (us.drop (i * 37)).length)).take (i * 37) = us.take (i * 37) := by
    rw [List.append_assoc, List.take_append_of_le_length (by rw [List.length_take, Array.length_toList, hcs]; omega), List.take_take, ← hus, List.take_take]
    congr 1; omega
  have hA1d : ((cur.toList.take ((i + 1) * 37) ++ us.drop (i * 37) ++ cur.toList.drop ((i + 1) * 37 + (us.drop (i * 37)).length)).drop ((i + 1) * 37)).take ((n - i) * 37) = us.drop (i * 37) := by
    rw [List.append_assoc, List.drop_left' (by rw [List.length_take, Array.length_toList, hcs]; omega), List.take_left' hdl]
  generalize cur.toList.take ((i + 1) * 37) ++ us.drop (i * 37) ++ cur.toList.drop ((i + 1) * 37 + (us.drop (i * 37)).length) = A1 at hcp1 hA1l hA1t hA1d
  have hg1 := setRow_heap w.drew g cur A1.toArray 98 (0, 0) hgd
  have hh1 : (w.drew.setRow g A1.toArray).heap[h]? = some (.cells cur2 98 (0, 0)) := (setRow_other w.drew g h _ hgh).trans hh
  have hcp2 : ∀ ty dc, (Builtin.copy_ #[46, 45] ty #[.slice (some ⟨g, i * 37, none⟩) (n + 1 - i) dc, .slice (some ⟨h, 0, none⟩) 1 cv]).run Tryz.prog (w.drew.setRow g A1.toArray) = .ok (goInt (1 : Nat)) ((w.drew.setRow g A1.toArray).setRow g (A1.toArray.toList.take (i * 37) ++ news ++ A1.toArray.toList.drop (i * 37 + news.length)).toArray) := fun ty dc =>
    run_copyN (P := Tryz.prog) _ 46 45 ty 98 inf Tryz.underlying46 hinf g (i * 37) (n + 1 - i) dc A1.toArray 98 hg1 ⟨h, 0, none⟩ 1 cv 1 news (by simp only [Nat.min_def]; split <;> omega) (by rw [hsz, hnl])
      (fun j u hj => by
        rw [Addr.add_mid, Nat.zero_add, cell_of_row _ h _ cur2 _ _ hh1]
        rw [← hnews, List.getElem?_take] at hj
        split at hj
        · simpa using hj
        · cases hj) hone2 (by rw [hnl, List.size_toArray, hA1l]; omega)
  have hA2s : (A1.toArray.toList.take (i * 37) ++ news ++ A1.toArray.toList.drop (i * 37 + news.length)).toArray.size = c * 37 := by
    simp only [List.size_toArray, List.length_append, List.length_take, List.length_drop, hnl, hA1l]; omega
  have hA2 : (A1.toArray.toList.take (i * 37) ++ news ++ A1.toArray.toList.drop (i * 37 + news.length)).toArray.toList.take ((n + 1) * 37) = us.take (i * 37) ++ news ++ us.drop (i * 37) := by
    show ((A1.take (i * 37) ++ news ++ A1.drop (i * 37 + news.length))).take ((n + 1) * 37) = _
    rw [hA1t, hnl]
    have e1 : (us.take (i * 37) ++ news).length = (i + 1) * 37 := by rw [List.length_append, List.length_take, hul, hnl]; omega
    have e2 : (n + 1) * 37 = (us.take (i * 37) ++ news).length + (n - i) * 37 := by rw [e1]; omega
    have e3 : i * 37 + 37 = (i + 1) * 37 := by omega
    rw [e2, List.take_length_add_append, e3, hA1d]
  generalize hA2e : (A1.toArray.toList.take (i * 37) ++ news ++ A1.toArray.toList.drop (i * 37 + news.length)).toArray = A2 at hcp2 hA2s hA2
  clear hA2e hA1l hA1t hA1d hg1 hh1 hg hh hus hnews hone hone2 hdl hul hnl hcs hc2s hgd
  have mixed : Tryz.prog.follows Departure.mixedOrders = true := by kernel_rfl
  go_enter Tryz.func62, Tryz.ntmps62
  go_wp2_with (simp only [hov])
  go_region_law_o (refine step_copy_run rfl _ _ 46 46 rfl _ _ (by simp [Act.eval, Act.put]) (by simp [Act.eval, Act.put]) (hcp1 _ _ _) ?_)
  go_wp2_with (at_builtin; refine wpList_copy_run _ rfl _ _ 46 45 rfl _ _ rfl rfl (hcp2 _ _) ?_)
  all_goals (go_ret; exact ⟨rfl, _, by rw [setRow_setRow], hA2s, hA2⟩)
end Go.Proofs.Lh

set_option linter.unusedVariables false
namespace Go.Proofs.Lh
open Go Go.Ab Go.Bb Go.RowKit Go.Proofs.Lg

/-- append(s, make([]T, m)...) where there is no room. -/
theorem run_append_grow_zeros {P : Program} (w : World) (t tn e : TypeId) (i : TypeInfo) (z : Value) (k kn : IntKind) (ht : P.underlying t = some (.slice e)) (htn : P.underlying tn = some (.int kn)) (hi : P.info? e = some i) (hz : i.zero = some z) (base : Option Addr) (sLen sCap : Nat) (olds : List Value)
    (hold : (Builtin.firstCells i.size sLen (.slice base sLen sCap)).run P w.drew = .ok olds.toArray w.drew) (m : Nat) (h0 : 0 < m) (hs : 0 < i.size) (hg : sCap < sLen + m) (h63 : ((sLen + m : Nat) : Int) ≤ 9223372036854775807) (hfit : Builtin.nextslicecap (sLen + m) sCap * i.bytes ≤ 281474976710656) (h48 : m * i.bytes ≤ 281474976710656) (ty : TypeId) :
    (Builtin.append_ #[t, tn] ty #[.slice base sLen sCap, .int k m]).run P w =
      .ok (.slice (some ⟨w.heap.size, 0, none⟩) (sLen + m) (grownCap w (sLen + m) sCap e)) (w.drew.alloc (.cells (olds.toArray ++ Builtin.zeroCells z.cells m ++ Builtin.zeroCells z.cells (grownCap w (sLen + m) sCap e - (sLen + m))) e)) := by
  have hn : ¬ (sLen + m ≤ sCap) := by omega
  have hw : IntKind.i64.wrap (m : Int) = m := by rw [IntKind.wrap_i64]; omega
  have h63' : ¬ (9223372036854775807 < ((sLen : Int) + (m : Int))) := by omega
  have h48' : ¬ (281474976710656 < Builtin.nextslicecap (sLen + m) sCap * i.bytes) := by omega
  have h48i : ¬ (281474976710656 < (m : Int) * (i.bytes : Int)) := by
    rw [← Int.natCast_mul]; omega
  have hneg : ¬ ((m : Int) < 0) := by omega
  have hns : ¬ (m * i.size = 0) := Nat.mul_ne_zero (by omega) (by omega)
  simp [Builtin.append_, run_underlying ht, run_underlying htn, sizeOf, typeInfo, zeroValue, hi, hz, asInt, asIntOf, hw, hn, hneg, hns, h63', h48', h48i, Question.forced, hold, newRow, grownCap]

set_option maxHeartbeats 4000000 in
set_option maxRecDepth 100000 in
theorem Insert_grow (w : World) (g n i h cv hc2 : Nat) (cur cur2 : Array Value) (us news : List Value) (hi : i < n) (hbig : n ≤ 1000000) (hgh : h ≠ g) (hg : w.heap[g]? = some (.cells cur 98 (0, 0))) (hcs : cur.size = n * 37) (hus : cur.toList.take (n * 37) = us) (hone : ∀ u ∈ us, u.oneCell' = true)
    (hh : w.heap[h]? = some (.cells cur2 98 (0, 0))) (hc2s : cur2.size = hc2 * 37) (hc2p : 1 ≤ hc2) (hnews : cur2.toList.take 37 = news) (hone2 : ∀ u ∈ news, u.oneCell' = true) :
    Calls Tryz.prog 62 #[.slice (some ⟨g, 0, none⟩) n n, .int .i64 i, .slice (some ⟨h, 0, none⟩) 1 cv] w fun e w' => ∃ gc A, n + 1 ≤ gc ∧ gc ≤ maxLen ∧ e = .returned (.slice (some ⟨w.heap.size, 0, none⟩) (n + 1) gc) ∧
      w'.heap[w.heap.size]? = some (.cells A 98 (0, 0)) ∧ A.size = gc * 37 ∧ A.toList.take ((n + 1) * 37) = us.take (i * 37) ++ news ++ us.drop (i * 37) ∧ w.grownBy w' none ∧ w.heap.size < w'.heap.size := by
  obtain ⟨inf, z, hinf, hsz, hz, hzs, hzo, hby1, hby2⟩ := info_Stored
  have hul : us.length = n * 37 := by rw [← hus, List.length_take, Array.length_toList, hcs]; omega
  have hnl : news.length = 37 := by rw [← hnews, List.length_take, Array.length_toList, hc2s]; omega
  have hdl : (us.drop (i * 37)).length = (n - i) * 37 := by rw [List.length_drop, hul]; omega
  have hgl : g < w.heap.size := (Array.getElem?_eq_some_iff.1 hg).1
  have hhl : h < w.heap.size := (Array.getElem?_eq_some_iff.1 hh).1
  -- append
  have hgd : w.drew.heap[g]? = some (.cells cur 98 (0, 0)) := hg
  have holds : (Builtin.firstCells inf.size i (.slice (some ⟨g, 0, none⟩) i n)).run Tryz.prog w.drew = .ok (us.take (i * 37)).toArray w.drew :=
    run_firstCells_some w.drew inf.size i ⟨g, 0, none⟩ i n (us.take (i * 37)) (by rw [hsz, List.length_take, hul]; omega) (fun j v hj => by
        rw [Addr.add_mid, Nat.zero_add, cell_of_row _ g _ cur _ _ hgd]
        rw [List.getElem?_take, ← hus] at hj
        split at hj
        · rw [List.getElem?_take] at hj
          split at hj
          · simpa using hj
          · cases hj
        · cases hj)
  have happ := run_append_grow_zeros (P := Tryz.prog) w 46 3 98 inf z .i64 .i64 Tryz.underlying46 Tryz.underlying3 hinf hz (some ⟨g, 0, none⟩) i n (us.take (i * 37)) holds (n + 1 - i) (by omega) (by omega) (by omega) (by omega)
      (growslice_fits (by omega) (by
        have h1 : (i + (n + 1 - i)) * inf.bytes ≤ (i + (n + 1 - i)) * 1000 := Nat.mul_le_mul_left _ hby2
        omega)) (by
        have h1 : (n + 1 - i) * inf.bytes ≤ (n + 1 - i) * 1000 := Nat.mul_le_mul_left _ hby2
        omega)
  have hcast : (((n + 1 - i : Nat)) : Int) = (n : Int) + 1 - i := by omega
  rw [hcast] at happ
  have hin1 : i + (n + 1 - i) = n + 1 := by omega
  rw [hin1] at happ
  have hge := grownCap_ge w (n + 1) n 98
  have hgm : grownCap w (n + 1) n 98 ≤ maxLen := grownCap_le_maxLen _ _ _ _ (by unfold maxLen; omega)
  have hRs : ((us.take (i * 37)).toArray ++ Builtin.zeroCells z.cells (n + 1 - i) ++ Builtin.zeroCells z.cells (grownCap w (n + 1) n 98 - (n + 1))).size = grownCap w (n + 1) n 98 * 37 := by
    simp only [Array.size_append, List.size_toArray, size_zeroCells, hzs, List.length_take, hul]
    omega
  have hRt : ((us.take (i * 37)).toArray ++ Builtin.zeroCells z.cells (n + 1 - i) ++ Builtin.zeroCells z.cells (grownCap w (n + 1) n 98 - (n + 1))).toList.take (i * 37) = us.take (i * 37) := by
    simp only [Array.toList_append]
    rw [List.append_assoc, List.take_left' (by rw [List.length_take, hul]; omega)]
  generalize grownCap w (n + 1) n 98 = gc at happ hge hgm hRs hRt
  generalize ((us.take (i * 37)).toArray ++ Builtin.zeroCells z.cells (n + 1 - i) ++ Builtin.zeroCells z.cells (gc - (n + 1))) = R at happ hRs hRt
  have h2 : (w.drew.alloc (.cells R 98)).heap[w.heap.size]? = some (.cells R 98 (0, 0)) := heap_alloc_new w.drew (.cells R 98)
  have hg2 : (w.drew.alloc (.cells R 98)).heap[g]? = some (.cells cur 98 (0, 0)) := (Go.Lib.alloc_old w.drew _ g hgl).trans hg
  have hh2 : (w.drew.alloc (.cells R 98)).heap[h]? = some (.cells cur2 98 (0, 0)) := (Go.Lib.alloc_old w.drew _ h hhl).trans hh
  have hgr2 : w.grownBy (w.drew.alloc (.cells R 98)) none := ⟨rfl, rfl, rfl, by simp, fun k hk _ => Below.heap_alloc w.drew _ k (by simpa using hk)⟩
  have hs2 : (w.drew.alloc (.cells R 98)).heap.size = w.heap.size + 1 := by simp
  generalize w.drew.alloc (.cells R 98) = w2 at happ h2 hg2 hh2 hgr2 hs2
  -- copy of the new element
  have hcp1 : ∀ ty dc, (Builtin.copy_ #[46, 45] ty #[.slice (some ⟨w.heap.size, i * 37, none⟩) (n + 1 - i) dc, .slice (some ⟨h, 0, none⟩) 1 cv]).run Tryz.prog w2 = .ok (goInt (1 : Nat)) (w2.setRow (w.heap.size) (R.toList.take (i * 37) ++ news ++ R.toList.drop (i * 37 + news.length)).toArray) := fun ty dc =>
    run_copyN (P := Tryz.prog) _ 46 45 ty 98 inf Tryz.underlying46 hinf (w.heap.size) (i * 37) (n + 1 - i) dc R 98 h2 ⟨h, 0, none⟩ 1 cv 1 news (by simp only [Nat.min_def]; split <;> omega) (by rw [hsz, hnl])
      (fun j u hj => by
        rw [Addr.add_mid, Nat.zero_add, cell_of_row _ h _ cur2 _ _ hh2]
        rw [← hnews, List.getElem?_take] at hj
        split at hj
        · simpa using hj
        · cases hj) hone2 (by rw [hnl, hRs]; omega)
  have hA1s : (R.toList.take (i * 37) ++ news ++ R.toList.drop (i * 37 + news.length)).length = gc * 37 := by
    simp only [List.length_append, List.length_take, List.length_drop, Array.length_toList, hnl, hRs]; omega
  have hA1t : (R.toList.take (i * 37) ++ news ++ R.toList.drop (i * 37 + news.length)).take ((i + 1) * 37) = us.take (i * 37) ++ news := by
    rw [hRt, List.take_left' (by rw [List.length_append, List.length_take, hul, hnl]; omega)]
  generalize R.toList.take (i * 37) ++ news ++ R.toList.drop (i * 37 + news.length) = A1 at hcp1 hA1s hA1t
  have h3 := setRow_heap w2 (w.heap.size) R A1.toArray 98 (0, 0) h2
  have hg3 : (w2.setRow (w.heap.size) A1.toArray).drew.heap[g]? = some (.cells cur 98 (0, 0)) := (setRow_other w2 _ g _ (by omega)).trans hg2
  have hcp2 : ∀ ty dc sc, (Builtin.copy_ #[46, 46] ty #[.slice (some ⟨w.heap.size, (i + 1) * 37, none⟩) (n - i) dc, .slice (some ⟨g, i * 37, none⟩) (n - i) sc]).run Tryz.prog (w2.setRow (w.heap.size) A1.toArray).drew = .ok (goInt (n - i : Nat)) ((w2.setRow (w.heap.size) A1.toArray).drew.setRow (w.heap.size) (A1.toArray.toList.take ((i + 1) * 37) ++ us.drop (i * 37) ++ A1.toArray.toList.drop ((i + 1) * 37 + (us.drop (i * 37)).length)).toArray) := fun ty dc sc =>
    run_copyN (P := Tryz.prog) (w2.setRow (w.heap.size) A1.toArray).drew 46 46 ty 98 inf Tryz.underlying46 hinf (w.heap.size) ((i + 1) * 37) (n - i) dc A1.toArray 98 h3 ⟨g, i * 37, none⟩ (n - i) sc (n - i) (us.drop (i * 37)) (by simp) (by rw [hsz]; exact hdl)
      (fun j u hj => by
        rw [Addr.add_mid, cell_of_row _ g _ cur _ _ hg3]
        rw [List.getElem?_drop, ← hus, List.getElem?_take] at hj
        split at hj
        · simpa using hj
        · cases hj) (fun u hu => hone u (List.mem_of_mem_drop hu)) (by rw [hdl, List.size_toArray, hA1s]; omega)
  have hA2s : (A1.toArray.toList.take ((i + 1) * 37) ++ us.drop (i * 37) ++ A1.toArray.toList.drop ((i + 1) * 37 + (us.drop (i * 37)).length)).toArray.size = gc * 37 := by
    simp only [List.size_toArray, List.length_append, List.length_take, List.length_drop, hul, hA1s]; omega
  have hA2 : (A1.toArray.toList.take ((i + 1) * 37) ++ us.drop (i * 37) ++ A1.toArray.toList.drop ((i + 1) * 37 + (us.drop (i * 37)).length)).toArray.toList.take ((n + 1) * 37) = us.take (i * 37) ++ news ++ us.drop (i * 37) := by
    show (A1.take ((i + 1) * 37) ++ us.drop (i * 37) ++ A1.drop ((i + 1) * 37 + (us.drop (i * 37)).length)).take ((n + 1) * 37) = _
    rw [hA1t]
    exact List.take_left' (by simp only [List.length_append, List.length_take, hul, hnl, hdl]; omega)
  generalize (A1.toArray.toList.take ((i + 1) * 37) ++ us.drop (i * 37) ++ A1.toArray.toList.drop ((i + 1) * 37 + (us.drop (i * 37)).length)).toArray = A2 at hcp2 hA2s hA2
  have hfin : (((w2.setRow (w.heap.size) A1.toArray).drew.setRow (w.heap.size) A2)).heap[w.heap.size]? = some (.cells A2 98 (0, 0)) := setRow_heap _ _ _ _ _ (0, 0) h3
  have hgrow : w.grownBy ((w2.setRow (w.heap.size) A1.toArray).drew.setRow (w.heap.size) A2) none := by
    refine ⟨hgr2.os, hgr2.tape, hgr2.output, ?_, fun k hk _ => ?_⟩
    · rw [setRow_size]; show w.heap.size ≤ (w2.setRow (w.heap.size) A1.toArray).heap.size; rw [setRow_size]; omega
    · rw [setRow_other _ _ k _ (by omega)]
      show (w2.setRow (w.heap.size) A1.toArray).heap[k]? = _
      rw [setRow_other _ _ k _ (by omega)]
      exact hgr2.block k hk (by simp)
  have hsize : w.heap.size < ((w2.setRow (w.heap.size) A1.toArray).drew.setRow (w.heap.size) A2).heap.size := (Array.getElem?_eq_some_iff.1 hfin).1
  have F := Go.Lib.hid (And.intro hfin (And.intro hA2s (And.intro hA2 (And.intro hgrow hsize))))
  clear hfin hA2s hA2 hgrow hsize h3 hg3 hA1s hA1t h2 hg2 hh2 hgr2 hs2 hRs hRt hus hnews hone hone2 hdl hul hnl hcs hc2s hg hh hinf hsz hz hzs hzo hgd holds
  have hz2 : ¬ ((i : Int) = (n : Int)) := by omega
  have hw1 : IntKind.i64.wrap ((i : Int) + 1) = (i : Int) + 1 := by rw [IntKind.wrap_i64]; omega
  have hw2 : IntKind.i64.wrap ((n : Int) + 1) = (n : Int) + 1 := by rw [IntKind.wrap_i64]; omega
  have hw3 : IntKind.i64.wrap ((n : Int) + 1 - i) = (n : Int) + 1 - i := by rw [IntKind.wrap_i64]; omega
  have hb1 : (0 : Int) ≤ (i : Int) + 1 := by omega
  have hin : i ≤ n := by omega
  have htn1 : ((i : Int) + 1).toNat = i + 1 := by omega
  have hb2 : ¬ (gc = i + 1) := by omega
  have hb3 : (i : Int) ≤ (n : Int) + 1 := by omega
  have hb4 : ¬ (gc = i) := by omega
  have hb5 : ¬ (n = i) := by omega
  have hcap : (n : Int) < (n : Int) + 1 := by omega
  have hin2 : i ≤ n + 1 := by omega
  have mixed : Tryz.prog.follows Departure.mixedOrders = true := by kernel_rfl
  go_enter Tryz.func62, Tryz.ntmps62
  go_wp2_with (at_builtin; refine Go.Lib.wpList_append_run _ rfl _ _ _ _ rfl _ _ rfl rfl _ _ (happ _) ?_)
  go_region_law_o (refine step_copy_run rfl _ _ 46 46 rfl _ _ (by simp [Act.eval, Act.put]) (by simp [Act.eval, Act.put]) (hcp2 _ _ _) ?_)
  go_wp2
  all_goals (go_ret; exact ⟨gc, A2, hge, hgm, rfl, F.out⟩)
end Go.Proofs.Lh

set_option linter.unusedVariables false
namespace Go.Proofs.Lh
open Go Go.Ab Go.Bb Go.RowKit Go.Proofs.Lg

def vecAt (s : List AObj) (id n : Nat) : Option (List AV) := match s[id]? with
  | some (.vec e sz ds) => if e = 98 ∧ sz = 37 ∧ ds.length = n * 37 then some ds else none
  | _ => none
theorem vecAt_ok {s : List AObj} {id n : Nat} {ds : List AV} (h : vecAt s id n = some ds) : s[id]? = some (.vec 98 37 ds) ∧ ds.length = n * 37 := by
  unfold vecAt at h
  split at h
  · rename_i e sz ds' hh
    obtain ⟨⟨rfl, rfl, h2⟩, h3⟩ := iteI h
    obtain rfl := Option.some.inj h3
    exact ⟨hh, h2⟩
  · cases h

section
variable {LL : Nat → Code → CC → Prop} {s : List AObj}

/-- A row that is written, opened. -/
theorem vec_open {B : Nat} {k : Cfg} {w : World} (hst : St LL B k s w) {id n : Nat} {ds : List AV} (hv : vecAt s id n = some ds) {v : Value} (hr : RA k w v (.vec id n 37)) :
    ∃ xs, k.own[id]? = some (.row v n) ∧ w.ownsRow B 98 37 v n xs ∧ (∀ g, v.ownBlock = some g → k.I g = 0) ∧ RAs k w xs ds := by
  obtain ⟨hid, hl⟩ := vecAt_ok hv
  obtain ⟨_, u, n', hku, hle, heq⟩ := hr.vec_inv
  obtain ⟨v2, n2, xs, g1, hown, hI, g4, hxs⟩ := hst.vec hid
  rw [hku] at g1; cases g1
  have hnn : n = n' := by
    rw [hl] at g4
    exact Nat.eq_of_mul_eq_mul_right (by decide) g4
  subst hnn
  rw [heq rfl]
  exact ⟨xs, by rw [hku], hown, hI, hxs⟩

/-- A row of one element. -/
theorem one_open {B : Nat} {w : World} {v : Value} {xs : List Value} (h : w.ownsRow B 98 37 v 1 xs) : ∃ g c cur, v = .slice (some ⟨g, 0, none⟩) 1 c ∧ w.heap[g]? = some (.cells cur 98 (0, 0)) ∧ 1 ≤ c ∧ cur.size = c * 37 ∧ cur.toList.take 37 = xs := by
  rcases h.2 with ⟨_, h0⟩ | ⟨g, c, cur, h1, h2, h3, h4, h5, h6, h7⟩
  · cases h0
  · exact ⟨g, c, cur, h1, h3, h4, h6, by simpa using h7⟩

theorem src_one {B : Nat} {w : World} {v : Value} {xs : List Value} {ds : List AV} {k : Cfg} (h : w.ownsRow B 98 37 v 1 xs) (hr : RAs k w xs ds) {sz : Nat} (hsz : sz = 37) : Src Tryz.prog sz 45 v 1 xs w := by
  subst hsz
  obtain ⟨g, c, cur, rfl, h3, _⟩ := one_open h
  exact Src.ofSlice (P := Tryz.prog) w Tryz.underlying45 ⟨g, 0, none⟩ 1 c xs h.1 (fun j u hj => h.cells (g := g) rfl j u hj) hr.2.1
end

theorem append_ty (t tx ty : TypeId) (v x : Value) : Builtin.append_ #[t, tx] ty #[v, x] = Builtin.append_ #[t, tx] t #[v, x] := rfl

/-- Onto a row of the call's own. -/
theorem Insert_vec {s : List AObj} {id id2 n i : Nat} {ds es : List AV} (hv : vecAt s id n = some ds) (he : vecAt s id2 1 = some es) (hne : id ≠ id2) (hi : i ≤ n) (hn : n ≤ 100000) :
    FnRuns (LLc Tryz.prog) Tryz.prog 62 [.vec id n 37, .d (.sc (.int .i64 i)), .vec id2 1 37] s (.vec id (n + 1) 37) (s.set id (.vec 98 37 (ds.take (i * 37) ++ es ++ ds.drop (i * 37)))) := by
  refine ⟨enters_fn' Tryz.func62 rfl (by rfl), fun B k w vs hst hvs => ?_⟩
  match vs, hvs with
  | [v, iv, v2], hvs =>
    obtain ⟨xs, hku, hown, hI, hxs⟩ := vec_open hst hv (hvs.2 0 v _ rfl rfl)
    have hiv := (hvs.2 1 iv _ rfl rfl).d_inv
    cases hiv
    obtain ⟨news, hku2, hown2, _, hnews⟩ := vec_open hst he (hvs.2 2 v2 _ rfl rfl)
    obtain ⟨_, hdl⟩ := vecAt_ok hv
    obtain ⟨_, hel⟩ := vecAt_ok he
    obtain ⟨inf, z, hinf, hsz, hz, hzs, hzo, hby1, hby2⟩ := info_Stored
    have hxl : xs.length = n * 37 := hown.1
    have hnl : news.length = 37 := hown2.1
    have hidlt := (List.getElem?_eq_some_iff.1 hku).1
    have hi37 : i * 37 ≤ n * 37 := Nat.mul_le_mul_right _ hi
    have hlen : (ds.take (i * 37) ++ es ++ ds.drop (i * 37)).length = (n + 1) * 37 := by simp only [List.length_append, List.length_take, List.length_drop, hdl, hel]; omega
    have hras : ∀ {k' : Cfg} {w' : World}, Mono k w k' w' → RAs k' w' (xs.take (i * 37) ++ news ++ xs.drop (i * 37)) (ds.take (i * 37) ++ es ++ ds.drop (i * 37)) := fun hm =>
      (((hxs.mono hm).take _).append (hnews.mono hm)).append ((hxs.mono hm).drop _)
    -- what is left to show once the new row is known
    have fin : ∀ (v' : Value) (w' : World) (g' : Nat), w'.ownsRow B 98 37 v' (n + 1) (xs.take (i * 37) ++ news ++ xs.drop (i * 37)) → Below B w w' → v'.ownBlock = some g' → (v.ownBlock = some g' ∨ (g' = w.heap.size ∧ w.heap.size < w'.heap.size)) → (∀ b, b < w.heap.size → b ≠ g' → w'.heap[b]? = w.heap[b]?) →
        ∃ k', RA k' w' v' (.vec id (n + 1) 37) ∧ Ext B k w k' w' ∧ St (LLc Tryz.prog) B k' (s.set id (.vec 98 37 (ds.take (i * 37) ++ es ++ ds.drop (i * 37)))) w' := fun v' w' g' h1 h2 h3 h4 h5 => by
      obtain ⟨he, hs2⟩ := hst.grow (m := 1) (x0 := 0) (x := 0) (ob := .vec 98 37 (ds.take (i * 37) ++ es ++ ds.drop (i * 37))) hku hI (by decide) (Nat.le_refl _) h2 h3 h4 h5 (fun _ q u hq _ => by omega)
        fun hmono => ⟨_, h1, fun g hg => by rw [h3] at hg; cases hg; exact updI_self .., hlen, hras hmono⟩
      exact ⟨_, .vec (ownsRow_form h1) ⟨v', n + 1, by simp [hidlt], Nat.le_refl _, fun _ => rfl⟩, he, hs2⟩
    rcases Nat.lt_or_ge i n with hlt | hge
    · rcases hown.2 with ⟨_, h0⟩ | ⟨g, c, cur, hvv, hgB, hg, hnc, hcm, hcs, htake⟩
      · omega
      · obtain ⟨h, cv, cur2, hv2, hh, hc1, hc2, hc3⟩ := one_open hown2
        have hgh : h ≠ g := fun e => hst.apart id id2 _ _ g hne hku hku2 (by rw [hvv]; rfl) (by rw [hv2, e]; rfl)
        have hub : v.ownBlock = some g := by rw [hvv]; rfl
        have hgl : g < w.heap.size := (Array.getElem?_eq_some_iff.1 hg).1
        unfold maxLen at hcm
        rw [hvv, hv2]
        by_cases hroom : n + 1 ≤ c
        · refine (Insert_room w g n c i h cv cv cur cur2 xs news hlt hroom (by omega) hgh hg hcs htake hxs.2.1 hh hc2 hc1 hc3 hnews.2.1).mono ?_
          rintro e w' ⟨rfl, A, rfl, hA1, hA2⟩
          have hoth : ∀ b, b < w.heap.size → b ≠ g → (w.drew.setRow g A).heap[b]? = w.heap[b]? := fun b hb hne => setRow_other w.drew g b _ hne
          have hgA : (w.drew.setRow g A).heap[g]? = some (.cells A 98 (0, 0)) := setRow_heap w.drew g cur A _ (0, 0) hg
          obtain ⟨k', q1, q2, q3⟩ := fin (.slice (some ⟨g, 0, none⟩) (n + 1) c) _ g
            ⟨by simp only [List.length_append, List.length_take, List.length_drop, hxl, hnl]; omega, .inr ⟨g, c, A, rfl, hgB, hgA, hroom, by unfold maxLen; omega, hA1, hA2⟩⟩
            ⟨rfl, rfl, rfl, by rw [setRow_size]; exact Nat.le_refl _, fun j hj => setRow_other w.drew g j _ (by omega)⟩ rfl (.inl hub) hoth
          exact ⟨_, k', rfl, q1, q2, q3⟩
        · obtain rfl : c = n := by omega
          refine (Insert_grow w g c i h cv cv cur cur2 xs news hlt (by omega) hgh hg hcs htake hxs.2.1 hh hc2 hc1 hc3 hnews.2.1).mono ?_
          rintro e w' ⟨gc, A, hge, hgm, rfl, hA0, hA1, hA2, hgr, hsz'⟩
          obtain ⟨k', q1, q2, q3⟩ := fin (.slice (some ⟨w.heap.size, 0, none⟩) (c + 1) gc) w' w.heap.size
            ⟨by simp only [List.length_append, List.length_take, List.length_drop, hxl, hnl]; omega, .inr ⟨w.heap.size, gc, A, rfl, hst.base, hA0, hge, hgm, hA1, hA2⟩⟩
            ((Below.refl _ _).grown hgr hst.base (by simp)) rfl (.inr ⟨rfl, hsz'⟩) (fun b hb _ => hgr.block b hb (by simp))
          exact ⟨_, k', rfl, q1, q2, q3⟩
    · obtain rfl : i = n := by omega
      have hown' : ownsG w B 98 inf.size v i xs := by rw [hsz]; exact ownsG.of hown
      obtain ⟨v', w2, hr, hcase, hR⟩ := run_appS (P := Tryz.prog) w B 46 45 46 98 inf z Tryz.underlying46 hinf hz (by rw [hsz]; exact hzs) v i xs hown' v2 1 news (src_one hown2 hnews hsz) (by omega)
        (by have h1 : (i + 1) * inf.bytes ≤ (i + 1) * 1000 := Nat.mul_le_mul_left _ hby2
            omega) hst.base
      rw [hsz] at hcase hR
      obtain ⟨a0, c0, hvf⟩ := ownsRow_form hown
      obtain ⟨h, cv, cur2, hv2, _⟩ := one_open hown2
      have hnc : i ≤ c0 := by rw [hvf] at hown; exact ownsRow_cap hown
      rw [hvf, hv2] at hr ⊢
      have hxd : xs.take (i * 37) ++ news ++ xs.drop (i * 37) = xs ++ news := by
        rw [List.take_of_length_le (by omega), List.drop_eq_nil_of_le (by omega), List.append_nil]
      refine (Insert_end w a0 i c0 (some ⟨h, 0, none⟩) cv hnc fun ty => by rw [append_ty]; exact hr).mono ?_
      rintro e w' ⟨rfl, rfl⟩
      rcases hcase with ⟨h0, _⟩ | ⟨_, hG, hb, hc⟩
      · cases h0
      · have hown2' := hR (by decide) hown
        rw [← hxd] at hown2'
        rcases hc with ⟨g, hg1, hg2, hgb⟩ | ⟨hg, hlt, hgb⟩
        · obtain ⟨k', q1, q2, q3⟩ := fin v' w' g hown2' hb hg1 (.inl hg2) fun b hb hne => hgb.block b hb (by simpa using hne)
          exact ⟨_, k', rfl, q1, q2, q3⟩
        · obtain ⟨k', q1, q2, q3⟩ := fin v' w' w.heap.size hown2' hb hg (.inr ⟨rfl, hlt⟩) fun b hb _ => hgb.block b hb (by simp)
          exact ⟨_, k', rfl, q1, q2, q3⟩

/-- Into an empty slice without room. -/
theorem Insert_new {s s2 : List AObj} {x : AV} (hx : ∀ (k : Cfg) (w : World) (v : Value), RA k w v x → ∃ a, v = .slice a 0 0) {id2 : Nat} {es : List AV} (he : vecAt s id2 1 = some es) (hag : Agrees s s2) {m : Nat} (hm : Holes s2 m 1) :
    FnRuns (LLc Tryz.prog) Tryz.prog 62 [x, .d (.sc (.int .i64 0)), .vec id2 1 37] s2 (.vec m 1 37) (fill s2 m [.vec 98 37 es]) := by
  refine ⟨enters_fn' Tryz.func62 rfl (by rfl), fun B k w vs hst hvs => ?_⟩
  match vs, hvs with
  | [v, iv, v2], hvs =>
    obtain ⟨a, rfl⟩ := hx k w v (hvs.2 0 v _ rfl rfl)
    have hiv := (hvs.2 1 iv _ rfl rfl).d_inv
    cases hiv
    have hr2 := hvs.2 2 v2 _ rfl rfl
    obtain ⟨hid, hel⟩ := vecAt_ok he
    have hid2 := agree_get hst hag hr2 rfl hid
    have he2 : vecAt s2 id2 1 = some es := by unfold vecAt; rw [hid2]; simp [hel]
    obtain ⟨news, hku2, hown2, _, hnews⟩ := vec_open hst he2 hr2
    obtain ⟨inf, z, hinf, hsz, hz, hzs, hzo, hby1, hby2⟩ := info_Stored
    have hnl : news.length = 37 := hown2.1
    obtain ⟨h, cv, cur2, hv2, _⟩ := one_open hown2
    have hold : (Builtin.firstCells inf.size 0 (.slice a 0 0)).run Tryz.prog w.drew = .ok ([] : List Value).toArray w.drew := by
      cases a with
      | none => exact run_firstCells_none w.drew inf.size 0 0 0
      | some a => exact run_firstCells_some w.drew inf.size 0 a 0 0 [] (by simp) (by simp)
    have hr := run_append_grow_src (P := Tryz.prog) w 46 45 46 98 inf z Tryz.underlying46 hinf hz a 0 0 [] hold v2 1 news (src_one hown2 hnews hsz) (by decide) (by decide) (growslice_fits (by decide) (by omega))
    rw [hv2] at hr ⊢
    have hge := grownCap_ge w (0 + 1) 0 98
    have hgm : grownCap w (0 + 1) 0 98 ≤ maxLen := grownCap_le_maxLen _ _ _ _ (by unfold maxLen; omega)
    refine (Insert_end w a 0 0 (some ⟨h, 0, none⟩) cv (Nat.le_refl _) fun ty => by rw [append_ty]; exact hr).mono ?_
    rintro e w' ⟨rfl, rfl⟩
    have hcell := heap_alloc_new w.drew (.cells (([] ++ news).toArray ++ Builtin.zeroCells z.cells (grownCap w (0 + 1) 0 98 - (0 + 1))) 98)
    have hgr : w.grownBy (w.drew.alloc (.cells (([] ++ news).toArray ++ Builtin.zeroCells z.cells (grownCap w (0 + 1) 0 98 - (0 + 1))) 98)) none := ⟨rfl, rfl, rfl, by simp, fun k hk _ => Below.heap_alloc w.drew _ k (by simpa using hk)⟩
    have hcs : (([] ++ news).toArray ++ Builtin.zeroCells z.cells (grownCap w (0 + 1) 0 98 - (0 + 1))).size = grownCap w (0 + 1) 0 98 * 37 := by
      simp only [Array.size_append, List.size_toArray, size_zeroCells, hzs, List.nil_append, hnl]; omega
    have hct : (([] ++ news).toArray ++ Builtin.zeroCells z.cells (grownCap w (0 + 1) 0 98 - (0 + 1))).toList.take (1 * 37) = news := by
      simp only [Array.toList_append, List.nil_append]
      exact List.take_left' (by rw [hnl])
    generalize hW : w.drew.alloc (.cells (([] ++ news).toArray ++ Builtin.zeroCells z.cells (grownCap w (0 + 1) 0 98 - (0 + 1))) 98) = W at hcell hgr
    generalize (([] ++ news).toArray ++ Builtin.zeroCells z.cells (grownCap w (0 + 1) 0 98 - (0 + 1))) = C at hcell hcs hct
    have hcell' : W.heap[w.heap.size]? = some (.cells C 98 (0, 0)) := hcell
    have hlt : w.heap.size < W.heap.size := (Array.getElem?_eq_some_iff.1 hcell').1
    generalize grownCap w (0 + 1) 0 98 = gc at hge hgm hcs
    have hown : W.ownsRow B 98 37 (.slice (some ⟨w.heap.size, 0, none⟩) 1 gc) 1 news := ⟨by rw [hnl], .inr ⟨w.heap.size, gc, C, rfl, hst.base, hcell', hge, hgm, hcs, hct⟩⟩
    have hbw : Below w.heap.size w W := ⟨hgr.os, hgr.tape, hgr.output, hgr.size, fun k hk => hgr.block k hk (by simp)⟩
    have hI : ∀ b, b < w.heap.size → updI k.I w.heap.size 0 b = k.I b := fun b hb => updI_ne _ _ (by omega)
    obtain ⟨he3, hs3⟩ := hst.newAt hbw hI hm (.row (.slice (some ⟨w.heap.size, 0, none⟩) 1 gc) 1) (.vec 98 37 es) (fun b hb => by cases hb; exact ⟨Nat.le_refl _, hlt⟩)
      fun hmo => ⟨news, hown, fun g hg => by cases hg; exact updI_self .., hel, hnews.mono hmo⟩
    exact ⟨_, _, rfl, .vec ⟨_, _, rfl⟩ ⟨_, 1, fill_own hst hm _, Nat.le_refl _, fun _ => rfl⟩, he3, hs3⟩
end Go.Proofs.Lh
