/-
  Part GAM of this claim's proof. Joined by merge.py from the texts of wip/tpl.
-/
import Derived.RangeFuncBox
import Derived.RangeFuncLeaves
import Derived.RangeFuncBound
import Derived.Shelf.Abstract
import Derived.WalkKit
import Derived.OwnWalkIn
import Derived.TacticsInMore
import Derived.LoopNIn
import Derived.LoopIn
import Derived.Maps.AppendAt
import Derived.Test.YtclholnhkhjjaaaGreatGAC
set_option linter.unusedVariables false
set_option linter.unusedSimpArgs false
set_option linter.unnecessarySimpa false
namespace Go.Proofs.Lg
open Go Go.RowKit Go.Shelf
attribute [local go_sem] Oper.semAt_some
def upto {α : Type} (f : Nat → α) (k : Nat) : List α := (List.range k).map f
theorem upto_succ {α : Type} (f : Nat → α) (k : Nat) : upto f (k + 1) = upto f k ++ [f k] := by simp [upto, List.range_succ]
theorem upto_length {α : Type} (f : Nat → α) (k : Nat) : (upto f k).length = k := by simp [upto]
theorem upto_all (zs : List Int) : upto (fun j => zs[j]?.getD 0) zs.length = zs := by
 apply List.ext_getElem
 · simp [upto]
 · intro i h1 h2
   simp [upto, h2]
theorem upto_take (zs : List Int) {k : Nat} (hk : k ≤ zs.length) : upto (fun j => zs[j]?.getD 0) k = zs.take k := by
 apply List.ext_getElem
 · simp [upto, hk]
 · intro i h1 h2
   have : i < zs.length := by simp [upto] at h1; omega
   simp [upto, this]
set_option maxRecDepth 100000 in
set_option maxHeartbeats 2000000 in
theorem values1_in (F : Fence) (n : Nat) (h7 : F.fn 149) (hro : F.round = none) (hn : 1 ≤ n) (l Bs n₀ b off len cap : Nat) (zs : List Int) (hreach : len * 8 ≤ 140737488351232) (hb : b < n₀) (J Jx : List Int → World → Prop)
   (hY : ∀ pre x W, J pre W → pre.length < len → YieldAt F (n - 1) Tryz.prog l #[.int .i64 x] W fun e W' =>
     (e = .returned (.bool true) ∧ J (pre ++ [x]) W' ∧ Below n₀ W W') ∨ (e = .returned (.bool false) ∧ Jx (pre ++ [x]) W'))
   (W : World) (hBs : W.cell? ⟨Bs, 0, none⟩ = some (.slice (some ⟨b, off, none⟩) len cap)) (hc : ∀ j, j < len → W.cell? ⟨b, off + j, none⟩ = some (.int .i64 (zs[j]?.getD 0))) (h0 : J [] W) :
   CallsIn F n Tryz.prog 149 #[.func (.yield l) #[] #[], .pointer (some ⟨Bs, 0, none⟩)] W fun e W' => (∃ v, e = .returned v) ∧
     ((∃ ys, ys = upto (fun j => zs[j]?.getD 0) len ∧ J ys W') ∨ (∃ pre, (∃ k, k ≤ len ∧ pre = upto (fun j => zs[j]?.getD 0) k) ∧ Jx pre W')) := by
 refine callsIn_of_wp Tryz.func149 rfl h7 ?_ hro
 simp only [Tryz.ntmps149, List.size_toArray, List.length_cons, List.length_nil, Nat.reduceAdd, Nat.reduceSub, Array.replicate_succ, Array.replicate_zero, List.push_toArray, List.append_toArray, List.nil_append, List.cons_append]
 gi_wp2
 gi_loopw [7] (fun i wr => ∃ k : Nat, k ≤ len ∧ i = .int .i64 k ∧ J (upto (fun j => zs[j]?.getD 0) k) wr ∧ Below n₀ W wr)
   (fun i _ => len - (intOf i).toNat)
 case atStart => exact ⟨0, Nat.zero_le _, rfl, h0, Below.refl _ _⟩
 case round =>
   obtain ⟨k, hk, rfl, hJs, hnx⟩ := hrel
   have hcx : k < len → wr.cell? ⟨b, off + k, none⟩ = some (.int .i64 (zs[k]?.getD 0)) := fun h => (hnx.cell (p := ⟨b, off + k, none⟩) hb).trans (hc k h)
   by_cases hlt : k < len
   · obtain ⟨fn, tmps, assign, body, hy, hR⟩ := hY _ (zs[k]?.getD 0) wr hJs (by rw [upto_length]; exact hlt)
     have hcx' := hcx hlt
     gi_wp2
     refine hR.mono ?_
     rintro e W3 (⟨rfl, hJ3, hk3⟩ | ⟨rfl, hJx3⟩)
     · gi_wp2
       go_roundw
       case rel => exact ⟨k + 1, by omega, by simp, by rw [upto_succ]; exact hJ3, hnx.trans hk3⟩
       case measure => simp [intOf]; omega
     · gi_wp2
       refine bodyPost_ret (results_none rfl _ _ _) rfl ?_
       exact ⟨⟨_, rfl⟩, .inr ⟨_, ⟨k + 1, by omega, (upto_succ _ _).symm⟩, hJx3⟩⟩
   · obtain rfl : k = len := by omega
     gi_wp2
     go_end0
     exact ⟨⟨_, rfl⟩, .inl ⟨_, rfl, hJs⟩⟩
set_option maxRecDepth 100000 in
set_option maxHeartbeats 1000000 in
theorem values1_none_in (F : Fence) (n : Nat) (h7 : F.fn 149) (hro : F.round = none) (l Bs : Nat) (a : Option Addr) (cap : Nat) (J : List Int → World → Prop) (W : World) (hBs : W.cell? ⟨Bs, 0, none⟩ = some (.slice a 0 cap)) (h0 : J [] W) :
   CallsIn F n Tryz.prog 149 #[.func (.yield l) #[] #[], .pointer (some ⟨Bs, 0, none⟩)] W fun e W' => (∃ v, e = .returned v) ∧ J [] W' := by
 refine callsIn_of_wp Tryz.func149 rfl h7 ?_ hro
 simp only [Tryz.ntmps149, List.size_toArray, List.length_cons, List.length_nil, Nat.reduceAdd, Nat.reduceSub, Array.replicate_succ, Array.replicate_zero, List.push_toArray, List.append_toArray, List.nil_append, List.cons_append]
 gi_wp2
 gi_loopw [7] (fun i wr => i = .int .i64 0 ∧ J [] wr) (fun _ _ => 0)
 case atStart => exact ⟨rfl, h0⟩
 case round =>
   obtain ⟨rfl, hJs⟩ := hrel
   gi_wp2
   go_end0
   exact ⟨⟨_, rfl⟩, hJs⟩
set_option maxHeartbeats 1000000 in
theorem values_in (F : Fence) (n : Nat) (h5 : F.fn 133) (hro : F.round = none) (a : Option Addr) (len cap : Nat) (w : World) :
   CallsIn F n Tryz.prog 133 #[.slice a len cap] w fun e w' => e = .returned (.func (.func 149) #[] #[.pointer (some ⟨w.heap.size, 0, none⟩)]) ∧ w' = w.alloc (.cells #[.slice a len cap] 29) := by
 refine callsIn_of_wp Tryz.func133 rfl h5 ?_ hro
 simp only [Tryz.ntmps133, List.size_toArray, List.length_cons, List.length_nil, Nat.reduceAdd, Nat.reduceSub, Array.replicate_succ, Array.replicate_zero, List.push_toArray, List.append_toArray, List.nil_append, List.cons_append]
 gi_wp2
 go_ret
 exact ⟨rfl, rfl⟩
theorem values_stops (F : Fence) (n : Nat) (h7 : F.fn 149) (hro : F.round = none) (hn : 1 ≤ n) (Bs n₀ : Nat) (sv : Value) (zs : List Int) (hreach : zs.length * 8 ≤ 140737488351232) (w w₀ : World) (hBs : Bs < w.heap.size) (hn₀ : n₀ = w₀.heap.size) (hb0 : Below n₀ w₀ w)
   (hc : w.cell? ⟨Bs, 0, none⟩ = some sv) (hI : SlAt w₀ sv (ints zs)) :
   SeqStopsK F n Tryz.prog 149 #[.pointer (some ⟨Bs, 0, none⟩)] (fun x : Int => #[Value.int .i64 x]) (Below n₀) (fun ys => ys = zs) (fun pre => pre <+: zs) zs.length w := fun l J Jx W hW _ _ hY h0 => by
 have hc' := (hW.cell (p := ⟨Bs, 0, none⟩) hBs).trans hc
 obtain ⟨a, c, rfl, k1, k2, k3⟩ := hI
 rw [ints_length] at hc' k1
 cases zs with
 | nil => exact (values1_none_in F n h7 hro l Bs a c J W hc' h0).mono fun e W' ⟨he, hj⟩ => ⟨he, .inl ⟨_, rfl, hj⟩⟩
 | cons z zs =>
   obtain ⟨b, off, rfl, hcs⟩ := k3 (by simp [ints])
   have hb : b < n₀ := by rw [hn₀]; exact cell_lt (hcs 0 (.int .i64 z) (by simp [ints]))
   have hn1 : n₀ ≤ w.heap.size := by rw [hn₀]; exact hb0.size
   refine (values1_in F n h7 hro hn l Bs n₀ b off (z :: zs).length c (z :: zs) hreach hb J Jx hY W hc' (fun j hj => ?_) h0).mono ?_
   · have h1 := hcs j (.int .i64 ((z :: zs)[j]?.getD 0)) (by unfold ints; rw [List.getElem?_map, List.getElem?_eq_getElem hj]; rfl)
     exact ((hb0.trans (hW.mono hn1)).cell (p := ⟨b, off + j, none⟩) hb).trans h1
   · rintro e W' ⟨he, ⟨ys, rfl, hj⟩ | ⟨pre, ⟨k, hk, rfl⟩, hj⟩⟩
     · exact ⟨he, .inl ⟨_, upto_all _, hj⟩⟩
     · exact ⟨he, .inr ⟨_, by rw [upto_take _ hk]; exact List.take_prefix _ _, hj⟩⟩
theorem info_int3 : (Tryz.prog.info? 3).map (fun i => (i.zero, i.size, i.bytes)) = some (some (.int .i64 0), 1, 8) := by kernel_rfl
set_option maxRecDepth 100000 in
set_option maxHeartbeats 2000000 in
theorem appendSeq_in (F : Fence) (n : Nat) (h3 : F.fn 152) (h5 : F.fn 149) (hro : F.round = none) (hn : 3 ≤ n) (sv : Value) (Bs : Nat) (zs : List Int) (hlen : zs.length ≤ 1000000) (w : World) (hBs : Bs < w.heap.size) (hc : w.cell? ⟨Bs, 0, none⟩ = some sv) (hI : SlAt w sv (ints zs)) :
   CallsIn F n Tryz.prog 152 #[.slice none 0 0, .func (.func 149) #[] #[.pointer (some ⟨Bs, 0, none⟩)]] w fun e W' => ∃ v, e = .returned v ∧ W'.ownsRow w.heap.size 3 1 v zs.length (ints zs) ∧ Below w.heap.size w W' := by
 have h1 : 1 ≤ n := by omega
 obtain ⟨i0, hi, hz0, hz1, hz2⟩ := info_parts info_int3
 refine callsIn_of_wp_marks Tryz.func152 rfl h3 ?_ hro
 simp only [Tryz.ntmps152, List.size_toArray, List.length_cons, List.length_nil, Nat.reduceAdd, Nat.reduceSub, Array.replicate_succ, Array.replicate_zero, List.push_toArray, List.append_toArray, List.nil_append, List.cons_append]
 gi_wp2
 have bO := Boxed.new w 29 (.slice none 0 0)
 have hB0 : Below w.heap.size w (w.alloc (.cells #[.slice none 0 0] 29)) := (Below.refl _ w).alloc (Nat.le_refl _) _
 refine wpIn_rangeFunc_ownG hro h1 (gf := 149) (lb := #[.pointer (some ⟨Bs, 0, none⟩)]) rfl h5 (enters_of Tryz.func149 (by kernel_rfl) rfl)
   (values_stops F (n - 1) h5 hro (by omega) Bs w.heap.size sv zs (by omega) _ w (by simp; omega) rfl hB0 ((hB0.cell (p := ⟨Bs, 0, none⟩) hBs).trans hc) hI) belowK_t (belowK_b (by simp)) (Below.refl _ _) (fun _ => rfl)
   (fun pre W => (∃ v, Boxed W w.heap.size 29 v ∧ W.ownsRow w.heap.size 3 1 v pre.length (ints pre) ∧ True) ∧ Below w.heap.size w W)
   (fun _ _ _ => False)
   (OwnFrom.and (Own.from (holdsRow_own w.heap.size w.heap.size 29 3 1 (fun pre => pre.length) (fun pre => ints pre) (fun _ _ => True)) _) (ownFrom_below (Nat.le_refl _) (by simp)))
   (fun _ _ _ _ _ hs _ _ => hs)
   ⟨⟨_, bO, World.ownsRow_nil _ _ _ _, trivial⟩, hB0⟩
   (fun x => { tmps := #[.slice none 0 0, .func (.func 149) #[] #[.pointer (some ⟨Bs, 0, none⟩)], .pointer (some ⟨w.heap.size, 0, none⟩), undef, .slice none 0 0, .int .i64 x, .func (.func 149) #[] #[.pointer (some ⟨Bs, 0, none⟩)], .int .i64 x, undef, undef, undef, undef, undef], defers := [] }) ?assign ?body ?done ?stop
 case assign =>
   intro l x W K hK
   gi_wp2
   exact hK
 case body =>
   rintro l pre x W ⟨⟨v, hv, hrow, _⟩, hB⟩ hlt
   have hc := hv.cell
   gi_wp2_with (gi_at_builtin; refine wpListIn_append_own _ rfl _ _ 29 rfl w.heap.size 3 i0 (.int .i64 0) 1 8 Tryz.underlying29 hi hz0 hz1 hz2 rfl (by decide) _ _ _ rfl (hrow.alloc _) ⟨W.heap.size, 0, none⟩ 1 1 [.int .i64 x] rfl rfl (cell_one_new _ _ _) (by simp [Value.oneCell']) (by unfold maxLen; omega) (by omega) (by have := hB.size; simp; omega) ?_; intro v' w1 hown' hgrow _; obtain ⟨g', cap', rfl⟩ := ownsRow_succ hown'; obtain ⟨hv1, hv2, hr2, hk2, hb2⟩ := hv.appended (by decide) hrow hB.size (Nat.le_refl _) hown' hgrow; have hc1 := hv1.cell; have hf1 := hv1.frozen)
   exact ⟨hk2.from _, hb2, ⟨_, hv2, by simpa [ints] using hr2, trivial⟩, hB.trans hb2⟩
 case done =>
   rintro D ys W hD rfl ⟨⟨v, hv, hrow, _⟩, hB⟩ hK
   have hc := hv.cell
   gi_wp2
   refine ⟨by simp, .inl ⟨_, _, rfl, run_takeDeferred hK, ?_⟩⟩
   exact ⟨_, results_tmp rfl _ _ _, v, rfl, ownsRow_putObj hrow _ hK rfl, hB.trans (belowK_b (w := w) (Nat.le_refl _) W D _ _ (by simp at hD; omega) hK rfl rfl)⟩
 case stop =>
   rintro D c pre W _ _ h _
   exact h.elim
end Go.Proofs.Lg

namespace Go.Proofs.Lg
open Go Go.RowKit
def okEdges (n : Nat) (l : List (Int × Int)) : Prop := ∀ e ∈ l, (-1 ≤ e.1 ∧ e.1 < n) ∧ (-1 ≤ e.2 ∧ e.2 < n) ∧ e.1 ≠ e.2
theorem edgesErr_ok (n : Nat) : ∀ (l : List (Int × Int)) (p : Option (Int × Int)), edgesErr n p l = 0 → okEdges n l
 | [], _, _ => by simp [okEdges]
 | e :: l, p, h => by
   have key : (outB n e.1 || outB n e.2) = false ∧ e.1 ≠ e.2 ∧ edgesErr n (some e) l = 0 := by
     cases p with
     | none =>
       simp only [edgesErr] at h
       by_cases h1 : (outB n e.1 || outB n e.2) = true
       · simp [h1] at h
       · by_cases h2 : e.1 = e.2
         · rw [if_neg h1, if_pos h2] at h; omega
         · rw [if_neg h1, if_neg h2] at h; exact ⟨by simpa using h1, h2, h⟩
     | some p =>
       simp only [edgesErr] at h
       by_cases h1 : (outB n e.1 || outB n e.2) = true
       · simp [h1] at h
       · by_cases h2 : e.1 = e.2
         · rw [if_neg h1, if_pos h2] at h; omega
         · by_cases h3 : 0 ≤ cmpEdge p e
           · simp [h1, h2, h3] at h
           · rw [if_neg h1, if_neg h2, if_neg h3] at h; exact ⟨by simpa using h1, h2, h⟩
   obtain ⟨h1, h2, h3⟩ := key
   have ih := edgesErr_ok n l (some e) h3
   intro x hx
   rcases List.mem_cons.1 hx with rfl | hx
   · simp only [outB, Bool.or_eq_false_iff, decide_eq_false_iff_not] at h1
     exact ⟨by omega, by omega, h2⟩
   · exact ih x hx
theorem Gr.check_ok {g : Gr} (h : g.check = 0) : linesOk g.lines = true ∧ okEdges g.lines.length g.edges := by
 unfold Gr.check at h
 by_cases hl : linesOk g.lines = true
 · simp only [hl, if_true] at h
   exact ⟨hl, edgesErr_ok _ _ _ h⟩
 · simp [hl] at h
theorem Gr.followers_length (g : Gr) : g.followers.length = g.lines.length := by simp [Gr.followers, fol_length]
theorem fol_valid (n : Nat) (l : List (Int × Int)) (hl : okEdges n l) : ∀ rows : List (List Int), (∀ r ∈ rows, ∀ x ∈ r, 0 ≤ x ∧ x < n) → ∀ r ∈ l.foldl folStep rows, ∀ x ∈ r, 0 ≤ x ∧ x < (n : Int) := by
 induction l with
 | nil => intro rows h; simpa using h
 | cons e l ih =>
   intro rows h
   refine ih (fun x hx => hl x (by simp [hx])) (folStep rows e) fun r hr x hx => ?_
   have he := hl e (by simp)
   unfold folStep at hr
   split at hr
   · obtain ⟨i, hi, rfl⟩ := List.mem_iff_getElem.1 hr
     rw [List.getElem_modify] at hx
     simp only [List.length_modify] at hi
     split at hx
     · rcases List.mem_append.1 hx with hx | hx
       · exact h _ (List.getElem_mem _) x hx
       · simp at hx; subst hx; omega
     · exact h _ (List.getElem_mem _) x hx
   · exact h r hr x hx
theorem Gr.followers_valid {g : Gr} (h : okEdges g.lines.length g.edges) : ∀ r ∈ g.followers, ∀ x ∈ r, 0 ≤ x ∧ x < (g.followers.length : Int) := by
 rw [g.followers_length]
 exact fol_valid _ _ h _ (by simp)
def rowSum : List (List Int) → Nat
 | [] => 0
 | r :: rows => r.length + rowSum rows
theorem rowSum_modify (rows : List (List Int)) (x : Int) : ∀ i, rowSum (rows.modify i (· ++ [x])) ≤ rowSum rows + 1 := by
 induction rows with
 | nil => intro i; simp [rowSum]
 | cons r rows ih =>
   intro i
   cases i with
   | zero => simp [rowSum]; omega
   | succ i => have := ih i; simp [rowSum]; omega
theorem rowSum_fol (l : List (Int × Int)) : ∀ rows : List (List Int), rowSum (l.foldl folStep rows) ≤ rowSum rows + l.length := by
 induction l with
 | nil => intro rows; simp
 | cons e l ih =>
   intro rows
   have h1 := ih (folStep rows e)
   have h2 : rowSum (folStep rows e) ≤ rowSum rows + 1 := by
     unfold folStep
     split
     · exact rowSum_modify _ _ _
     · omega
   simp; omega
theorem rowSum_nil (n : Nat) : rowSum (List.replicate n []) = 0 := by
 induction n with
 | zero => rfl
 | succ n ih => simp [List.replicate_succ, rowSum, ih]
theorem pot_false : ∀ rows : List (List Int), pot rows (List.replicate rows.length false) = rowSum rows + rows.length
 | [] => rfl
 | r :: rows => by simp [List.replicate_succ, pot, rowSum, pot_false rows]; omega
theorem row_le_sum : ∀ (rows : List (List Int)) (i : Nat), (rows.getD i []).length ≤ rowSum rows
 | [], i => by simp
 | r :: rows, 0 => by simp [rowSum]
 | r :: rows, i + 1 => by have := row_le_sum rows i; simp only [List.getD_cons_succ, rowSum]; omega
theorem Gr.pot_le (g : Gr) (hl : g.lines.length ≤ 1000000) (he : g.edges.length ≤ 1000000) (i : Nat) : pot g.followers (List.replicate g.followers.length false) + (g.followers.getD i []).length ≤ 5000000 := by
 have h1 := rowSum_fol g.edges (List.replicate g.lines.length [])
 rw [rowSum_nil] at h1
 have h2 := row_le_sum g.followers i
 have h3 := g.followers_length
 rw [pot_false]
 unfold Gr.followers at *
 omega
def Gr.reach (g : Gr) : List (List Bool) := if g.check = 0 then (List.range g.lines.length).map (fromRow g.followers) else []
theorem info_bools : (Tryz.prog.info? 140).map (fun i => (i.zero, i.size, i.bytes)) = some (some (.slice none 0 0), 1, 24) := by kernel_rfl
set_option maxHeartbeats 4000000 in
set_option maxRecDepth 100000 in
theorem Reaches_any (vl ve : Value) (g : Gr) (w : World) (hg : GrAt w vl ve g) :
   Calls Tryz.prog 69 #[.agg #[vl, ve]] w fun e w' => ∃ v, e = .returned v ∧ SlOfP (fun b => w.heap.size ≤ b) w' v (g.reach.map bools) ∧ Below w.heap.size w w' := by
 by_cases hck : g.check = 0
 · have h1 : (g.check == 0) = true := by simp [hck]
   have h2 : (g.check != 0) = false := by simp [hck]
   obtain ⟨hlo, hok⟩ := Gr.check_ok hck
   have HCK := Lib.hid hck
   have HOK := Lib.hid hok
   clear hck hok hlo
   go_enter Tryz.func69, Tryz.ntmps69
   go_wp2_with fail
   refine (Check_any vl ve g _ (hg.below ((Below.refl _ _).alloc (Nat.le_refl _) _))).mono ?_
   rintro e w1 ⟨rfl, hb1⟩
   have hx0 : w1.cell? ⟨w.heap.size, 0, none⟩ = some vl := below_cell hb1 (by simp [go_sem])
   have hx1 : w1.cell? ⟨w.heap.size, 1, none⟩ = some ve := below_cell hb1 (by simp [go_sem])
   have hbw1 : Below w.heap.size w w1 := ((Below.refl _ _).alloc (Nat.le_refl _) _).trans (hb1.mono (by simp))
   clear hb1
   go_wp2_with fail
   refine (followers_any vl ve g _ (hg.below hbw1) (fun e he => (HOK.out e he).1.2)).mono ?_
   rintro e w2 ⟨v2, rfl, hs2, hb2⟩
   have hn := g.followers_length
   have hbw2 := hbw1.trans (hb2.mono hbw1.size)
   obtain ⟨vs2, hv2⟩ : ∃ vs2, SlAt w2 v2 vs2 ∧ vs2.length = g.lines.length := by
     obtain ⟨vs, h1, h2, _⟩ := hs2
     exact ⟨vs, h1, by simpa [hn] using h2⟩
   obtain ⟨⟨a2, c2, rfl, hc1, hc2, _⟩, hl2⟩ := hv2
   rw [hl2] at hs2 hc1 ⊢
   have hmk := run_make_row' (P := Tryz.prog) 76 140 (.slice none 0 0) 24 Tryz.underlying76 info_bools rfl .i64 .i64 g.lines.length (by have := hg.few; omega) (by have := hg.few; omega)
   obtain ⟨C0, hC0⟩ : ∃ C0, C0 = Go.madeCells #[Value.slice none 0 0] g.lines.length := ⟨_, rfl⟩
   rw [← hC0] at hmk
   have HC0 := Lib.hid hC0
   have HS2 := Lib.hid hs2
   have HG := Lib.hid hg
   have HN := Lib.hid hn
   clear hC0 hs2 hg hn hl2 hb2 hx0 hx1
   go_wp2
   have HST : Hid ((w2.alloc (.cells C0 140)).heap[w2.heap.size]? = some (.cells C0 140 (0, 0))) := heap_alloc_new w2 _
   go_loopg [16, 5] (g.lines.length + 1) (fun gk i _ wr => ∃ (k : Nat) (vs : List Value), i = .int .i64 k ∧ k ≤ g.lines.length ∧ gk + k = g.lines.length + 1 ∧ vs.length = g.lines.length ∧ wr.heap[w2.heap.size]? = some (.cells vs.toArray 140 (0, 0)) ∧
     (∀ j, j < k → ∃ u, vs[j]? = some u ∧ SlAt wr u (bools (fromRow g.followers j)) ∧ ∀ b, u.ownBlock = some b → w2.heap.size < b) ∧ Below w2.heap.size w2 wr)
   case atStart =>
     exact ⟨0, List.replicate g.lines.length (.slice none 0 0), rfl, Nat.zero_le _, by omega, by simp, by rw [HST.out, HC0.out, Go.madeCells_one], fun j hj => by omega, (Below.refl _ _).alloc (Nat.le_refl _) _⟩
   case round =>
     obtain ⟨k, vs, rfl, hk, hgk, hvl, hh, hrows, hB⟩ := hrel
     have HH := Lib.hid hh
     have HR := Lib.hid hrows
     have HV := Lib.hid hvl
     have hBw := hbw2.trans (hB.mono hbw2.size)
     clear hh hrows hvl HST
     by_cases hlt : k < g.lines.length
     · go_wp2_with fail
       refine (from_any g.followers _ k _ (HS2.out.below hB) (by rw [HN.out]; exact hlt) (by rw [HN.out]; exact HG.out.few) (Gr.pot_le g HG.out.few HG.out.fewe k) (Gr.followers_valid HOK.out)).mono ?_
       rintro e w3 ⟨v3, rfl, hs3, ho3, hb3⟩
       obtain ⟨a3, c3, hv3⟩ : ∃ a c, v3 = .slice a (bools (fromRow g.followers k)).length c := by obtain ⟨a, c, h, _⟩ := hs3; exact ⟨a, c, h⟩
       subst hv3
       have hh3 := heap_below hb3 HH.out
       have hc3 : w3.cell? ⟨w2.heap.size, k, none⟩ = some (vs[k]'(by rw [HV.out]; exact hlt)) := by rw [cell_of_heap hh3]; simp
       have hf3 : w3.frozen? ⟨w2.heap.size, k, none⟩ = false := frozen_of_heap hh3
       have HH3 := Lib.hid hh3
       have HS3 := Lib.hid hs3
       have HO3 := Lib.hid ho3
       have HL2 : Hid (w2.heap.size < wr.heap.size) := (Array.getElem?_eq_some_iff.1 HH.out).1
       have hlt2 := HL2.out
       generalize vs[k]'(by rw [HV.out]; exact hlt) = old at hc3
       clear hh3 hs3 ho3
       go_wp2
       go_roundg (gk - 1)
       case measure => omega
       case rel =>
         have hw3 : w2.heap.size < w3.heap.size := (Array.getElem?_eq_some_iff.1 HH3.out).1
         refine ⟨k + 1, vs.set k (.slice a3 (bools (fromRow g.followers k)).length c3), by go_num, by omega, by omega, by simp [HV.out], by rw [heap_setCell_same HH3.out]; simp, fun j hj => ?_, ?_⟩
         · by_cases hjk : j = k
           · subst hjk
             exact ⟨_, by rw [List.getElem?_set_self (by rw [HV.out]; exact hlt)], HS3.out.setCell (fun e => by have := HO3.out _ e; have := HL2.out; simp at *; omega) _, fun b e => by have := HO3.out _ e; have := HL2.out; omega⟩
           · obtain ⟨u, hu1, hu2, hu3⟩ := HR.out j (by omega)
             exact ⟨u, by rw [List.getElem?_set_ne (by omega)]; exact hu1, (hu2.below hb3).setCell (fun e => absurd (hu3 w2.heap.size e) (Nat.lt_irrefl _)) _, hu3⟩
         · exact (hB.trans (hb3.mono hB.size)).setCell (Nat.le_refl _) _
     · have HK : Hid (k = g.lines.length) := by show k = _; omega
       clear hgk
       go_wp2
       go_ret
       refine ⟨.slice (some ⟨w2.heap.size, 0, none⟩) g.lines.length g.lines.length, rfl, ?_, hBw⟩
       unfold Gr.reach
       rw [if_pos HCK.out]
       have hfew := HG.out.few
       have hwlt := hbw2.size
       refine ⟨vs, (SlAt.mk HV.out (Nat.le_refl _) (by omega) fun j u hu => ?_).slAtP_of (fun b e => by have : w2.heap.size = b := Option.some.inj e; omega), by simp [HV.out], fun j u r hu hr => ?_⟩
       · rw [Nat.zero_add, cell_of_heap HH.out]; simpa using hu
       · have hj : j < g.lines.length := by have := (List.getElem?_eq_some_iff.1 hu).1; rw [HV.out] at this; exact this
         obtain ⟨u', h1, h2, h3⟩ := HR.out j (by rw [HK.out]; exact hj)
         rw [hu] at h1
         obtain rfl := Option.some.inj h1
         have : r = bools (fromRow g.followers j) := by
           rw [List.getElem?_map, List.getElem?_map, List.getElem?_range hj] at hr
           exact (Option.some.inj hr).symm
         rw [this]; exact h2.slAtP_of (fun b e => by have := h3 b e; omega)
 · have h1 : (g.check == 0) = false := by simp [hck]
   have h2 : (g.check != 0) = true := by simp [hck]
   have HCK := Lib.hid hck
   clear hck
   go_enter Tryz.func69, Tryz.ntmps69
   go_wp2_with (go_at_call 54; refine (Check_any vl ve g _ (hg.below ((Below.refl _ _).alloc (Nat.le_refl _) _))).mono ?_; rintro e w1 ⟨rfl, hb1⟩)
   go_ret
   refine ⟨_, rfl, ?_, ((Below.refl _ _).alloc (Nat.le_refl _) _).trans (hb1.mono (by simp))⟩
   unfold Gr.reach
   rw [if_neg HCK.out]
   exact ⟨[], (SlAt.nil _).slAtP_of (fun b e => by cases e), rfl, by simp⟩
def Gr.before (g : Gr) (i j : Nat) : Bool := (fromRow g.followers i).getD j false && !(fromRow g.followers j).getD i false
theorem fromF_length (next : List (List Int)) : ∀ (f : Nat) (todo : List Int) (out : List Bool), (fromF next f todo out).length = out.length
 | 0, _, _ => rfl
 | f + 1, todo, out => by
   simp only [fromF]
   split
   · rfl
   · split <;> simp [fromF_length next f]
theorem fromRow_length (next : List (List Int)) (i : Nat) : (fromRow next i).length = next.length := by simp [fromRow, fromF_length]
end Go.Proofs.Lg

namespace Go.Proofs.Lg
open Go Go.RowKit
def rel (rows : List (List Bool)) (i j : Nat) : Bool := (rows.getD i []).getD j false
def bef (rows : List (List Bool)) (i j : Nat) : Bool := rel rows i j && !rel rows j i
def relat (rows : List (List Bool)) (i j : Nat) : Bool := bef rows i j || bef rows j i
def Sq (n : Nat) (rows : List (List Bool)) : Prop := rows.length = n ∧ ∀ r ∈ rows, r.length = n
theorem SlOf.form {w : World} {v : Value} {n : Nat} {rows : List (List Bool)} (h : SlOf w v (rows.map bools)) (hq : Sq n rows) (hn : 0 < n) :
   ∃ b off c, v = .slice (some ⟨b, off, none⟩) n c ∧ ∀ i j, i < n → j < n → ∃ bi oi ci, w.cell? ⟨b, off + i, none⟩ = some (.slice (some ⟨bi, oi, none⟩) n ci) ∧ w.cell? ⟨bi, oi + j, none⟩ = some (.bool (rel rows i j)) := by
 obtain ⟨vs, ⟨a, c, rfl, h1, h2, h3⟩, hlen, hrows⟩ := h
 simp only [List.length_map, hq.1] at hlen
 obtain ⟨b, off, rfl, hc⟩ := h3 (by intro e; subst e; simp at hlen; omega)
 refine ⟨b, off, c, by rw [hlen], fun i j hi hj => ?_⟩
 have hiv : i < vs.length := by omega
 have hir : i < rows.length := by rw [hq.1]; exact hi
 have hlr : rows[i].length = n := hq.2 _ (List.getElem_mem _)
 have hci := hc i vs[i] (List.getElem?_eq_getElem hiv)
 obtain ⟨ai, ci, hvi, k1, k2, k3⟩ := hrows i vs[i] (bools rows[i]) (List.getElem?_eq_getElem hiv) (by rw [List.getElem?_map, List.getElem?_eq_getElem hir]; rfl)
 have hbl : (bools rows[i]).length = n := by simp [bools, hlr]
 obtain ⟨bi, oi, rfl, kc⟩ := k3 (by intro e; rw [e] at hbl; simp at hbl; omega)
 rw [hbl] at hvi
 refine ⟨bi, oi, ci, by rw [hci, hvi], kc j _ ?_⟩
 simp [bools, rel, hir]
 rw [List.getElem?_eq_getElem (by omega)]
 rfl
set_option maxHeartbeats 400000 in
theorem before_any (vl ve vr vv : Value) (n i j : Nat) (rows : List (List Bool)) (w : World) (h : SlOf w vr (rows.map bools)) (hq : Sq n rows) (hi : i < n) (hj : j < n) (hn : n ≤ 1000000) :
   Calls Tryz.prog 75 #[.agg #[vl, ve, vr, vv], .int .i64 i, .int .i64 j] w fun e w' => e = .returned (.bool (bef rows i j)) ∧ Below w.heap.size w w' := by
 obtain ⟨b, off, c, rfl, hc⟩ := h.form hq (by omega)
 obtain ⟨bi, oi, ci, c1, c2⟩ := hc i j hi hj
 obtain ⟨bj, oj, cj, c3, c4⟩ := hc j i hj hi
 have hb := cell_lt c1
 have hbi := cell_lt c2
 have hbj := cell_lt c4
 unfold bef
 generalize rel rows i j = x at c2 ⊢
 generalize rel rows j i = y at c4 ⊢
 clear hc hq h
 cases x <;>
 · go_enter Tryz.func75, Tryz.ntmps75
   go_wp2
   go_ret
   exact ⟨rfl, (Below.refl _ _).alloc (Nat.le_refl _) _⟩
set_option maxHeartbeats 400000 in
theorem related_any (vl ve vr vv : Value) (n i j : Nat) (rows : List (List Bool)) (w : World) (h : SlOf w vr (rows.map bools)) (hq : Sq n rows) (hi : i < n) (hj : j < n) (hn : n ≤ 1000000) :
   Calls Tryz.prog 72 #[.agg #[vl, ve, vr, vv], .int .i64 i, .int .i64 j] w fun e w' => e = .returned (.bool (relat rows i j)) ∧ Below w.heap.size w w' := by
 obtain ⟨b, off, c, rfl, hc⟩ := h.form hq (by omega)
 clear hc
 have H := Lib.hid h
 have HB : Hid (relat rows i j = (bef rows i j || bef rows j i)) := rfl
 clear h
 go_enter Tryz.func72, Tryz.ntmps72
 go_wp2_with fail
 refine (before_any _ _ _ _ n i j rows _ (H.out.below ((Below.refl _ _).alloc (Nat.le_refl _) _)) hq hi hj hn).mono ?_
 rintro e w1 ⟨rfl, hb1⟩
 generalize bef rows i j = x at HB
 have hbw1 : Below w.heap.size w w1 := ((Below.refl _ _).alloc (Nat.le_refl _) _).trans (hb1.mono (by simp))
 have x0 : w1.cell? ⟨w.heap.size, 0, none⟩ = some vl := below_cell hb1 (by simp [go_sem])
 have x1 : w1.cell? ⟨w.heap.size, 1, none⟩ = some ve := below_cell hb1 (by simp [go_sem])
 have x2 : w1.cell? ⟨w.heap.size, 2, none⟩ = some (.slice (some ⟨b, off, none⟩) n c) := below_cell hb1 (by simp [go_sem])
 have x3 : w1.cell? ⟨w.heap.size, 3, none⟩ = some vv := below_cell hb1 (by simp [go_sem])
 clear hb1
 cases x with
 | true =>
   go_wp2
   go_ret
   exact ⟨by rw [HB.out]; rfl, hbw1⟩
 | false =>
   go_wp2_with fail
   refine (before_any _ _ _ _ n j i rows _ (H.out.below hbw1) hq hj hi hn).mono ?_
   rintro e w2 ⟨rfl, hb2⟩
   have hbw2 := hbw1.trans (hb2.mono hbw1.size)
   clear hb2
   go_wp2
   go_ret
   exact ⟨by rw [HB.out]; rfl, hbw2⟩
set_option maxHeartbeats 1000000 in
theorem settled1_any (vl ve vr vv : Value) (n i j Bi Bx : Nat) (rows : List (List Bool)) (w : World) (h : SlOf w vr (rows.map bools)) (hq : Sq n rows) (hi : i < n) (hj : j < n) (hn : n ≤ 1000000)
   (hbi : w.cell? ⟨Bi, 0, none⟩ = some (.int .i64 i)) (x0 : w.cell? ⟨Bx, 0, none⟩ = some vl) (x1 : w.cell? ⟨Bx, 1, none⟩ = some ve) (x2 : w.cell? ⟨Bx, 2, none⟩ = some vr) (x3 : w.cell? ⟨Bx, 3, none⟩ = some vv) :
   Calls Tryz.prog 71 #[.int .i64 j, .pointer (some ⟨Bi, 0, none⟩), .pointer (some ⟨Bx, 0, none⟩)] w fun e w' => e = .returned (.bool (decide (i ≠ j) && !relat rows i j)) ∧ Below w.heap.size w w' := by
 by_cases hij : i = j
 · have h1 : ((i : Int) != (j : Int)) = false := by simp [hij]
   have h2 : ((i : Int) == (j : Int)) = true := by simp [hij]
   have H := Lib.hid hij
   clear hij
   go_enter Tryz.func71, Tryz.ntmps71
   go_wp2
   go_ret
   exact ⟨by simp [H.out], Below.refl _ _⟩
 · have h1 : ((i : Int) != (j : Int)) = true := by simp; omega
   have h2 : ((i : Int) == (j : Int)) = false := by simp; omega
   have H := Lib.hid hij
   have HS := Lib.hid h
   clear hij h
   go_enter Tryz.func71, Tryz.ntmps71
   go_wp2_with (go_at_call 72; refine (related_any _ _ _ _ n i j rows _ HS.out hq hi hj hn).mono ?_; rintro e w1 ⟨rfl, hb1⟩)
   go_ret
   exact ⟨by simp [H.out], hb1⟩
def cmpBef (rows : List (List Bool)) (i j : Nat) : Int := if i = j then 0 else if bef rows i j then -1 else 1
set_option maxHeartbeats 1000000 in
theorem arranged11_any (vl ve vr vv : Value) (n i j Bi Bx : Nat) (rows : List (List Bool)) (w : World) (h : SlOf w vr (rows.map bools)) (hq : Sq n rows) (hi : i < n) (hj : j < n) (hn : n ≤ 1000000)
   (hbi : w.cell? ⟨Bi, 0, none⟩ = some (.int .i64 i)) (x0 : w.cell? ⟨Bx, 0, none⟩ = some vl) (x1 : w.cell? ⟨Bx, 1, none⟩ = some ve) (x2 : w.cell? ⟨Bx, 2, none⟩ = some vr) (x3 : w.cell? ⟨Bx, 3, none⟩ = some vv) :
   Calls Tryz.prog 135 #[.int .i64 j, .pointer (some ⟨Bx, 0, none⟩), .pointer (some ⟨Bi, 0, none⟩)] w fun e w' => e = .returned (.bool (bef rows j i)) ∧ Below w.heap.size w w' := by
 have HS := Lib.hid h
 clear h
 go_enter Tryz.func135, Tryz.ntmps135
 go_wp2_with (go_at_call 75; refine (before_any _ _ _ _ n j i rows _ HS.out hq hj hi hn).mono ?_; rintro e w1 ⟨rfl, hb1⟩)
 go_ret
 exact ⟨rfl, hb1⟩
end Go.Proofs.Lg
