/-
  Part GAT of this claim's proof. Joined by merge.py from the texts of wip/tpl.
-/
import Derived.Test.YtclholnhkhjjaaaGreatGAS
set_option linter.unusedVariables false
set_option linter.unusedSimpArgs false
set_option linter.unnecessarySimpa false
namespace Go.Proofs.Lg
def sideR (rows : List (List Bool)) : Nat → Nat → List Nat → List Nat → List Nat × List Nat
 | 0, _, inn, out => (inn, out)
 | f + 1, n, inn, out => match inn[n]? with
   | none => (inn, out)
   | some x => sideR rows f (n + 1) (inn ++ out.filter (adj rows x)) (out.filter fun y => !adj rows x y)
def confR (rows : List (List Bool)) : Nat → List Nat → List (List Nat)
 | 0, _ => []
 | _ + 1, [] => []
 | f + 1, x :: t => arrL rows (sideR rows (t.length + 2) 0 [x] t).1 :: confR rows f (sideR rows (t.length + 2) 0 [x] t).2
structure SideInv (rows : List (List Bool)) (gap : List Nat) (x : Nat) (n : Nat) (inn out : List Nat) : Prop where
 nodup : inn.Nodup
 left : out = gap.filter fun y => decide (y ∉ inn)
 mem : ∀ y ∈ inn, y ∈ gap
 hangs : ∀ y ∈ inn, Hangs rows gap x y
 done : ∀ (k : Nat) (y z : Nat), k < n → inn[k]? = some y → z ∈ out → adj rows y z = false
 self : x ∈ inn
 le : n ≤ inn.length
theorem SideInv.step {rows : List (List Bool)} {gap : List Nat} {x n y : Nat} {inn out : List Nat} (h : SideInv rows gap x n inn out) (hg : gap.Nodup) (hy : inn[n]? = some y) :
   SideInv rows gap x (n + 1) (inn ++ out.filter (adj rows y)) (out.filter fun z => !adj rows y z) := by
 have hym : y ∈ inn := List.mem_of_getElem? hy
 have hnl := (List.getElem?_eq_some_iff.1 hy).1
 have ho : ∀ z, z ∈ out ↔ z ∈ gap ∧ z ∉ inn := fun z => by rw [h.left]; simp
 have hon : out.Nodup := by rw [h.left]; exact hg.filter _
 refine ⟨?_, ?_, fun z hz => ?_, fun z hz => ?_, fun k u z hk hu hz => ?_, List.mem_append_left _ h.self, by rw [List.length_append]; omega⟩
 · rw [List.nodup_append]
   refine ⟨h.nodup, hon.filter _, fun a ha b hb e => ?_⟩
   subst e
   exact ((ho a).1 (List.mem_filter.1 hb).1).2 ha
 · rw [h.left, List.filter_filter]
   refine List.filter_congr fun z hz => ?_
   rw [Bool.eq_iff_iff]
   simp only [Bool.and_eq_true, Bool.not_eq_true', decide_eq_true_eq, List.mem_append, List.mem_filter, not_or, not_and, Bool.not_eq_true]
   constructor
   · rintro ⟨h1, h2⟩; exact ⟨h2, fun _ => h1⟩
   · rintro ⟨h1, h2⟩; exact ⟨h2 ⟨hz, h1⟩, h1⟩
 · rcases List.mem_append.1 hz with hz | hz
   · exact h.mem z hz
   · exact ((ho z).1 (List.mem_filter.1 hz).1).1
 · rcases List.mem_append.1 hz with hz | hz
   · exact h.hangs z hz
   · obtain ⟨h1, h2⟩ := List.mem_filter.1 hz
     exact (h.hangs y hym).step ((ho z).1 h1).1 h2
 · obtain ⟨h1, h2⟩ := List.mem_filter.1 hz
   by_cases hkn : k = n
   · subst hkn
     rw [List.getElem?_append_left hnl, hy] at hu
     obtain rfl := Option.some.inj hu
     simpa using h2
   · rw [List.getElem?_append_left (by omega)] at hu
     exact h.done k u z (by omega) hu h1
theorem nodup_len_le : ∀ (a b : List Nat), a.Nodup → (∀ x ∈ a, x ∈ b) → a.length ≤ b.length
 | [], _, _, _ => Nat.zero_le _
 | x :: a, b, hn, h => by
   obtain ⟨h1, h2⟩ := List.nodup_cons.1 hn
   have hx := h x List.mem_cons_self
   have := nodup_len_le a (b.erase x) h2 fun y hy => (List.mem_erase_of_ne (by intro e; subst e; exact h1 hy)).2 (h y (List.mem_cons_of_mem _ hy))
   rw [List.length_erase_of_mem hx] at this
   have := List.length_pos_of_mem hx
   simp only [List.length_cons]
   omega
theorem sideR_inv {rows : List (List Bool)} {gap : List Nat} {x : Nat} (hg : gap.Nodup) : ∀ (f n : Nat) (inn out : List Nat), SideInv rows gap x n inn out → gap.length + 1 ≤ f + n →
   SideInv rows gap x (sideR rows f n inn out).1.length (sideR rows f n inn out).1 (sideR rows f n inn out).2
 | 0, n, inn, out, h, hf => by
   have : inn.length ≤ gap.length := nodup_len_le _ _ h.nodup fun y hy => h.mem y hy
   have := h.le
   omega
 | f + 1, n, inn, out, h, hf => by
   unfold sideR
   cases hy : inn[n]? with
   | none =>
     have hnl := List.getElem?_eq_none_iff.1 hy
     have : n = inn.length := by have := h.le; omega
     subst this
     exact h
   | some y => exact sideR_inv hg f (n + 1) _ _ (h.step hg hy) (by omega)
theorem sideR_spec {rows : List (List Bool)} {x : Nat} {t : List Nat} (hg : (x :: t).Nodup) :
   ∃ inn out, sideR rows (t.length + 2) 0 [x] t = (inn, out) ∧ inn.Nodup ∧ out = (x :: t).filter (fun y => decide (y ∉ inn)) ∧ x ∈ inn ∧ (∀ y ∈ inn, y ∈ x :: t) ∧ (∀ y ∈ inn, Hangs rows (x :: t) x y) ∧ ∀ y ∈ inn, ∀ z ∈ x :: t, adj rows y z = true → z ∈ inn := by
 have h0 : SideInv rows (x :: t) x 0 [x] t := by
   refine ⟨by simp, ?_, by simp, by simp; exact Hangs.self, fun k _ _ hk => by omega, by simp, by omega⟩
   have hx := (List.nodup_cons.1 hg).1
   rw [List.filter_cons]
   simp only [List.mem_singleton, not_true, decide_false, if_false, Bool.false_eq_true]
   refine (List.filter_eq_self.2 fun y hy => ?_).symm
   simp only [decide_eq_true_eq]
   exact fun e => hx (e ▸ hy)
 have h1 := sideR_inv hg (t.length + 2) 0 [x] t h0 (by simp)
 generalize sideR rows (t.length + 2) 0 [x] t = r at *
 refine ⟨r.1, r.2, rfl, h1.nodup, h1.left, h1.self, h1.mem, h1.hangs, fun y hy z hz ha => ?_⟩
 by_cases hzi : z ∈ r.1
 · exact hzi
 · obtain ⟨k, hk, hky⟩ := List.getElem_of_mem hy
   have := h1.done k y z hk (by rw [List.getElem?_eq_getElem hk, hky]) (by rw [h1.left, List.mem_filter]; exact ⟨hz, by simpa using hzi⟩)
   rw [ha] at this; cases this
theorem arrL_same {rows : List (List Bool)} {a b : List Nat} (ha : a.Nodup) (hb : b.Nodup) (h : ∀ x, x ∈ a ↔ x ∈ b) : arrL rows a = arrL rows b := by
 have hp : a.Perm b := (List.perm_ext_iff_of_nodup ha hb).2 h
 have hs : sortI a = sortI b := by
   unfold sortI
   refine List.Perm.eq_of_pairwise (le := fun x y => x ≤ y) (fun x y _ _ h1 h2 => Nat.le_antisymm h1 h2) ?_ ?_ ((List.mergeSort_perm _ _).trans (hp.trans (List.mergeSort_perm _ _).symm))
   · have := List.pairwise_mergeSort (le := fun x y : Nat => decide (x ≤ y)) (fun a b c h1 h2 => by simp at *; omega) (fun a b => by simp; omega) a
     exact this.imp fun h => by simpa using h
   · have := List.pairwise_mergeSort (le := fun x y : Nat => decide (x ≤ y)) (fun a b c h1 h2 => by simp at *; omega) (fun a b => by simp; omega) b
     exact this.imp fun h => by simpa using h
 unfold arrL
 rw [hs]
theorem confR_classes {rows : List (List Bool)} {n : Nat} (ht : TransR n rows) {l : List Nat} (hl : ∀ i ∈ l, i < n) (hnd : l.Nodup) : ∀ (t : List Nat) (c : List (List Nat) × List Nat) (f : Nat), (∀ i ∈ t, i ∈ l) → SidesOk rows l c →
   (l.filter fun y => decide (y ∉ c.2)) = (t.filter fun y => decide (y ∉ c.2)) → t.length ≤ f → (t.foldl (cstep rows l) c).1 = c.1 ++ confR rows f (t.filter fun y => decide (y ∉ c.2))
 | [], c, f, _, _, _, _ => by cases f <;> simp [confR]
 | i :: t, c, f, htl, hc, hlt, hf => by
   have hil := htl i List.mem_cons_self
   have htl' : ∀ j ∈ t, j ∈ l := fun j hj => htl j (List.mem_cons_of_mem _ hj)
   simp only [List.length_cons] at hf
   obtain ⟨hok, _, _⟩ := cstep_ok ht hl hc hil
   rw [List.foldl_cons]
   by_cases hs : i ∈ c.2
   · have hcs : cstep rows l c i = c := by unfold cstep; rw [if_pos (by simpa using hs)]
     rw [hcs]
     have hfi : ((i :: t).filter fun y => decide (y ∉ c.2)) = t.filter fun y => decide (y ∉ c.2) := by rw [List.filter_cons]; simp [hs]
     rw [hfi] at hlt ⊢
     exact confR_classes ht hl hnd t c f htl' hc hlt (by omega)
   · have hcs : cstep rows l c i = (c.1 ++ [arrL rows (visit rows l l.length c.2 i).1], (visit rows l l.length c.2 i).2) := by unfold cstep; rw [if_neg (by simpa using hs)]
     have hv := visit_cl rows l l.length c.2 i hil hs (by have : unseen l c.2 ≤ l.length := List.length_filter_le _ _; omega)
     have hfi : ((i :: t).filter fun y => decide (y ∉ c.2)) = i :: t.filter fun y => decide (y ∉ c.2) := by rw [List.filter_cons]; simp [hs]
     have hR : ∀ y, y ∈ i :: (t.filter fun y => decide (y ∉ c.2)) ↔ y ∈ l ∧ y ∉ c.2 := fun y => by rw [← hfi, ← hlt]; simp
     have hRn : (i :: (t.filter fun y => decide (y ∉ c.2))).Nodup := by rw [← hfi, ← hlt]; exact hnd.filter _
     obtain ⟨inn, out, hsd, h1, h2, h3, h4, h5, h6⟩ := sideR_spec (rows := rows) hRn
     have hmem : ∀ x, x ∈ (visit rows l l.length c.2 i).1 ↔ x ∈ inn := by
       refine fun x => ⟨fun hx => ?_, fun hx => ?_⟩
       · have key : ∀ y, Hangs rows l i y → y ∈ inn := by
           intro y hy
           induction hy with
           | self => exact h3
           | step hxy hyl ha ih =>
             rename_i u v
             have hu := ((hR u).1 (h4 u ih)).2
             exact h6 u ih v ((hR v).2 ⟨hyl, fun hvc => hu (hc.closed v hvc u ((hR u).1 (h4 u ih)).1 (by rw [adj_symm]; exact ha))⟩) ha
         exact key x (hv.hangs x hx)
       · have key : ∀ y, Hangs rows (i :: (t.filter fun y => decide (y ∉ c.2))) i y → y ∈ (visit rows l l.length c.2 i).1 := by
           intro y hy
           induction hy with
           | self => exact hv.self
           | step hxy hyl ha ih =>
             rename_i u v
             obtain ⟨hvl, hvc⟩ := (hR v).1 hyl
             rcases (hv.seen v).1 (hv.closed u ih v hvl ha) with h | h
             · exact absurd h hvc
             · exact h
         exact key x (h5 x hx)
     have hV2 : ∀ y, y ∈ (visit rows l l.length c.2 i).2 ↔ y ∈ c.2 ∨ y ∈ inn := fun y => by rw [hv.seen, hmem]
     have hout : out = t.filter fun y => decide (y ∉ (visit rows l l.length c.2 i).2) := by
       rw [h2, List.filter_cons]
       simp only [h3, not_true, decide_false, Bool.false_eq_true, if_false]
       rw [List.filter_filter]
       refine List.filter_congr fun y _ => ?_
       rw [Bool.eq_iff_iff]
       simp only [Bool.and_eq_true, decide_eq_true_eq, hV2, not_or]
       exact ⟨fun h => ⟨h.2, h.1⟩, fun h => ⟨h.2, h.1⟩⟩
     have hlt2 : (l.filter fun y => decide (y ∉ (cstep rows l c i).2)) = t.filter fun y => decide (y ∉ (cstep rows l c i).2) := by
       rw [hcs]
       dsimp only
       rw [← hout, h2, ← hfi, ← hlt, List.filter_filter]
       refine List.filter_congr fun y _ => ?_
       rw [Bool.eq_iff_iff]
       simp only [Bool.and_eq_true, decide_eq_true_eq, hV2, not_or]
       exact ⟨fun h => ⟨h.2, h.1⟩, fun h => ⟨h.2, h.1⟩⟩
     obtain ⟨f', rfl⟩ : ∃ f', f = f' + 1 := ⟨f - 1, by omega⟩
     rw [confR_classes ht hl hnd t (cstep rows l c i) f' htl' hok hlt2 (by omega), hfi, confR, hsd, hcs]
     dsimp only
     rw [arrL_same hv.nodup h1 hmem, ← hout, List.append_assoc]
     rfl
theorem classesL_confR {rows : List (List Bool)} {n : Nat} (ht : TransR n rows) {l : List Nat} (hl : ∀ i ∈ l, i < n) (hnd : l.Nodup) {f : Nat} (hf : l.length ≤ f) : classesL rows l = confR rows f l := by
 have := confR_classes ht hl hnd l ([], []) f (fun _ h => h) ⟨by simp, by simp, by simp, by simp, by simp, by simp, by simp⟩ rfl hf
 have hfl : (l.filter fun y => decide (y ∉ ([] : List Nat))) = l := List.filter_eq_self.2 fun y _ => by simp
 rw [hfl] at this
 simpa [classesL, classesS] using this
theorem arrN_settled {n : Nat} {rows : List (List Bool)} {living : List Nat} (h : Lv n rows living) : arrN rows (inL rows living living).length (inL rows living living) = sortB rows (inL rows living living) := by
 have hlt : ∀ i ∈ inL rows living living, i < n := fun i hi => h.lt i (mem_inL.1 hi).1
 have hnd : (inL rows living living).Nodup := h.nd.filter _
 have hp := arrN_perm rows h.t (inL rows living living).length _ hlt rfl
 have hw := arrN_pairwise rows h.t (inL rows living living).length _ hlt rfl
 have hw2 : (arrN rows (inL rows living living).length (inL rows living living)).Pairwise fun a b => bef rows a b = true := by
   have hn2 := hp.nodup_iff.2 hnd
   refine (List.pairwise_and_iff.2 ⟨hw, hn2⟩ |>.imp_of_mem ?_)
   intro a b ha hb hab
   obtain ⟨h1, h2⟩ := hab
   have ha' := mem_inL.1 (hp.mem_iff.1 ha)
   have hb' := mem_inL.1 (hp.mem_iff.1 hb)
   rcases relat_cases (ha'.2 b hb'.1 h2) with h | h
   · exact h
   · rw [h1] at h; cases h
 refine List.Perm.eq_of_pairwise (le := fun a b => bef rows a b = true) (fun a b _ _ h1 h2 => ?_) hw2 h.inn (hp.trans (sortB_perm rows _).symm)
 unfold bef at h1 h2
 simp only [Bool.and_eq_true, Bool.not_eq_true'] at h1 h2
 rw [h1.1] at h2; exact absurd h2.2 (by simp)
def gapR (rows : List (List Bool)) (living inn : List Nat) (m : Nat) : List Nat := living.filter fun i => !inn.contains i && gapN rows inn i == m
theorem gapR_eq (rows : List (List Bool)) (living : List Nat) (m : Nat) : gapR rows living (sortB rows (inL rows living living)) m = (outL rows living living).filter fun i => gapN rows (sortB rows (inL rows living living)) i == m := by
 unfold gapR outL
 rw [List.filter_filter]
 refine List.filter_congr fun i hi => ?_
 have : (!(sortB rows (inL rows living living)).contains i) = unset rows living i := by
   rw [Bool.eq_iff_iff]
   simp only [Bool.not_eq_true', List.contains_eq_mem, decide_eq_false_iff_not, (sortB_perm rows _).mem_iff]
   unfold inL
   rw [List.mem_filter]
   simp [hi]
 rw [this, Bool.and_comm]
def refStep (rows : List (List Bool)) (living inn : List Nat) (c : List Reg × List Nat) (m : Nat) : List Reg × List Nat :=
 let g := gapR rows living inn m
 let c1 := if g ≠ [] ∨ m = inn.length then ((if c.2 = [] then c.1 else c.1 ++ [⟨false, c.2, []⟩]), []) else c
 let c2 := if g = [] then c1 else (c1.1 ++ [⟨true, [], confR rows g.length g⟩], c1.2)
 match inn[m]? with
 | some i => (c2.1, c2.2 ++ [i])
 | none => c2
def regRef (rows : List (List Bool)) (living inn : List Nat) (m : Nat) : List Reg × List Nat := (List.range m).foldl (refStep rows living inn) ([], [])
theorem regRef_eq {n : Nat} {rows : List (List Bool)} {living : List Nat} (h : Lv n rows living) : (regRef rows living (sortB rows (inL rows living living)) ((sortB rows (inL rows living living)).length + 1)).1 = regionsL rows living := by
 obtain ⟨inn, hinn⟩ : ∃ inn, sortB rows (inL rows living living) = inn := ⟨_, rfl⟩
 have hgap := gapR_eq rows living
 unfold regionsL
 rw [hinn] at hgap ⊢
 have hcl : ∀ m, classesL rows (gapR rows living inn m) = confR rows (gapR rows living inn m).length (gapR rows living inn m) := fun m =>
   classesL_confR h.t (fun i hi => h.lt i (List.mem_filter.1 hi).1) (h.nd.filter _) (Nat.le_refl _)
 have hstep : ∀ m c, m < inn.length → refStep rows living inn c m = regStep rows inn (outL rows living living) c m := fun m c hm => by
   unfold refStep regStep
   dsimp only
   rw [← hgap, ← hcl]
   have hm2 : m ≠ inn.length := by omega
   by_cases hg : gapR rows living inn m = []
   · simp [hg, hm2]; cases inn[m]? <;> rfl
   · simp [hg]; cases inn[m]? <;> rfl
 have hrun : ∀ m, m ≤ inn.length → regRef rows living inn m = regRun rows inn (outL rows living living) m := by
   intro m
   induction m with
   | zero => intro _; rfl
   | succ m ih =>
     intro hm
     rw [regRun_succ, ← ih (by omega), ← hstep m _ (by omega)]
     unfold regRef
     rw [List.range_succ, List.foldl_append]
     rfl
 rw [regRun_succ, ← hrun _ (Nat.le_refl _)]
 have : regRef rows living inn (inn.length + 1) = refStep rows living inn (regRef rows living inn inn.length) inn.length := by
   unfold regRef
   rw [List.range_succ, List.foldl_append]
   rfl
 rw [this]
 generalize regRef rows living inn inn.length = c
 unfold refStep regStep regEnd
 dsimp only
 rw [← hgap, ← hcl]
 simp only [List.getElem?_eq_none (Nat.le_refl inn.length)]
 by_cases hg : gapR rows living inn inn.length = []
 · simp [hg]
 · simp [hg]
end Go.Proofs.Lg

namespace Go.Proofs.Lg
open Go Go.Ab Go.Bb Go.Proofs.Lh
def vrow (v : Vtx) : List D := v.cells.map .sc
def dLines (ls : List Vtx) : D := .sl 35 (ls.map vrow)
def erow (e : Int × Int) : List D := [.sc (.int .i64 e.1), .sc (.int .i64 e.2)]
def dEdges (es : List (Int × Int)) : D := .sl 2 (es.map erow)
def dGraph (g : Gr) : D := .agg [dLines g.lines, dEdges g.edges]
theorem vrow_living {v : Vtx} (h : v.id.length = 32) : (vrow v).drop 34 = [.sc (.bool v.living)] := by
 have : (vrow v).length = 35 := by simp [vrow, Vtx.cells, h]
 simp only [vrow, Vtx.cells, List.map_append, List.drop_append, List.length_map, h]
 rw [List.drop_eq_nil_of_le (by simp [h])]
 rfl
theorem livL_take {ls : List Vtx} {k : Nat} (hk : k < ls.length) : livL (ls.take (k + 1)) = if ls[k].living then livL (ls.take k) ++ [k] else livL (ls.take k) := by
 rw [List.take_succ_eq_append_getElem hk, livL_snoc]
 simp [Nat.min_eq_left (Nat.le_of_lt hk)]
theorem livL_le (ls : List Vtx) (k : Nat) : (livL (ls.take k)).length ≤ k := by
 have := livFrom_length (ls.take k) 0
 unfold livL
 simp only [List.length_take] at this
 omega
theorem living_fn (ve : D) (ls : List Vtx) {rows : List (List Bool)} (hn : rows.length = ls.length) (hok : ∀ x ∈ ls, x.id.length = 32) (hll : ls.length ≤ 1000000) : AFn Tryz.prog 78 [dOrd (dLines ls) ve rows] (dNats (livL ls)) := by
 refine AFn_of (F := k_refLiving) (okb_refLiving.trans (by kernel_rfl)) (by simp [k_refLiving]) ?_
 simp only [k_refLiving, dOrd, dNats, dNat, dBool, dRows, dLines, roomOk, ↓Both_true, ↓Both_false, wx, reduceCtorEq, reduceIte, Nat.reduceAdd, Nat.reduceEqDiff, Nat.reduceLT, Nat.reduceLeDiff]
 refine LoopK.countJ (fun k => [(4, .d (.sc (.int .i64 k))), (1, .ptr 0 0), (3, .tsl 1 1 ((livL (ls.take k)).map nrow))]) (fun k J => .cells [.d (.sl 35 (ls.map vrow)), .d ve, .d (.sl 1 (rows.map brow))] :: .row 3 1 (livL (ls.take k)).length :: J) (fun _ => True) ls.length [] (by simp [SubB, Go.Bb.look, livL, livFrom]) rfl trivial fun k J hk _ => ?_
 by_cases hlt : k < ls.length
 · have h1 : decide ((k : Int) < (rows.length : Int)) = true := by rw [hn]; simpa using hlt
   have h2 : ls[k]? = some ls[k] := List.getElem?_eq_getElem hlt
   have h3 : IntKind.i64.wrap ((k : Int) + 1) = ((k + 1 : Nat) : Int) := wrapN (by omega) (by omega)
   have h4 := livL_take hlt
   have h5 := vrow_living (hok ls[k] (List.getElem_mem _))
   have h6 := livL_le ls k
   have h7 : ((livL (ls.take k)).length + 1) * 8 ≤ 140737488355328 := by omega
   have h8 : (livL (ls.take k)).length ≤ 9223372036854775806 := by omega
   generalize ls[k] = x at h2 h4 h5
   simp only [h1, h2, h5, roomOk, ↓Both_true, ↓Both_false, wx, reduceCtorEq, reduceIte, Nat.reduceAdd, Nat.reduceEqDiff, Nat.reduceLT, Nat.reduceLeDiff]
   cases hb : x.living with
   | true =>
     rw [hb] at h4
     simp only [h3, h4, h7, h8, hb, hlt, if_true, List.map_append, nrow, roomOk, ↓Both_true, ↓Both_false, wx, reduceCtorEq, reduceIte, Nat.reduceAdd, Nat.reduceEqDiff, Nat.reduceLT, Nat.reduceLeDiff]
     exact ⟨_, rfl⟩
   | false =>
     rw [hb] at h4
     simp only [h3, h4, hb, hlt, roomOk, ↓Both_true, ↓Both_false, wx, reduceCtorEq, reduceIte, Nat.reduceAdd, Nat.reduceEqDiff, Nat.reduceLT, Nat.reduceLeDiff]
     exact ⟨_, rfl⟩
 · have h1 : decide ((k : Int) < (rows.length : Int)) = false := by rw [hn]; simpa using hlt
   have h2 : ls.take k = ls := List.take_of_length_le (by omega)
   simp only [h1, h2, roomOk, ↓Both_true, ↓Both_false, wx, reduceCtorEq, reduceIte, Nat.reduceAdd, Nat.reduceEqDiff, Nat.reduceLT, Nat.reduceLeDiff]
end Go.Proofs.Lg

namespace Go.Proofs.Lg
open Go Go.Ab Go.Bb Go.Proofs.Lh
def IsRow (l : List Nat) (v : AV) : Prop := v = .d (.sl 1 (l.map nrow)) ∨ ∃ id, v = .tsl id 1 (l.map nrow)
theorem arrN_cons {rows : List (List Bool)} {l : List Nat} (h : pickK rows l < l.length) : arrN rows l.length l = l[pickK rows l] :: arrN rows (l.eraseIdx (pickK rows l)).length (l.eraseIdx (pickK rows l)) := by
 have hne : l ≠ [] := by intro e; subst e; cases h
 have hlen : (l.eraseIdx (pickK rows l)).length = l.length - 1 := by rw [List.length_eraseIdx_of_lt h]
 have h1 : ∃ f, l.length = f + 1 := ⟨l.length - 1, by omega⟩
 obtain ⟨f, hf⟩ := h1
 rw [hlen, hf]
 simp only [arrN, if_neg hne, Nat.add_sub_cancel]
 congr 1
 simp [List.getD_eq_getElem?_getD, List.getElem?_eq_getElem h]
theorem arranged_fn (vl ve : D) {n : Nat} {rows : List (List Bool)} (ht : TransR n rows) (hq : Sq n rows) {l : List Nat} (hl : ∀ j ∈ l, j < n) (hll : l.length ≤ 1000000) : AFn Tryz.prog 80 [dOrd vl ve rows, dNats l] (dNats (arrN rows l.length l)) := by
 refine AFn_of (F := k_refArranged) (okb_refArranged.trans (by kernel_rfl)) (by simp [k_refArranged]) ?_
 simp only [k_refArranged, dOrd, dNats, dNat, dBool, roomOk, ↓Both_true, ↓Both_false, wx, reduceCtorEq, reduceIte, Nat.reduceAdd, Nat.reduceEqDiff, Nat.reduceLT, Nat.reduceLeDiff]
 refine LoopK.at (fun b : List Nat × List Nat × AV × List AObj => [(1, b.2.2.1), (2, .ptr 0 0), (5, .tsl 1 1 (b.1.map nrow))]) (fun b => .cells [.d vl, .d ve, .d (dRows rows)] :: .row 3 1 b.1.length :: b.2.2.2)
   (fun m b => m = b.2.1.length ∧ b.1 ++ arrN rows b.2.1.length b.2.1 = arrN rows l.length l ∧ (∀ j ∈ b.2.1, j < n) ∧ b.1.length + b.2.1.length ≤ 1000000 ∧ IsRow b.2.1 b.2.2.1) l.length ([], l, .d (.sl 1 (l.map nrow)), []) (by simp [SubB, Go.Bb.look]) rfl ⟨rfl, rfl, hl, by simpa using hll, .inl rfl⟩ ?_
 rintro m ⟨out, l1, v, J⟩ ⟨hm, he, hl1, hlen, hv⟩
 dsimp only at hm he hl1 hlen hv ⊢
 clear hl hll
 by_cases hne : l1 = []
 · subst hne
   simp only [List.length_nil, arrN, List.append_nil] at he
   subst he
   have h0 : decide (((0 : Nat) : Int) > 0) = false := by decide
   rcases hv with rfl | ⟨id, rfl⟩ <;> simp only [h0, roomOk, ↓Both_true, ↓Both_false, wx, reduceCtorEq, reduceIte, Nat.reduceAdd, Nat.reduceEqDiff, Nat.reduceLT, Nat.reduceLeDiff]
 · obtain ⟨hpk, hp1, hp2⟩ := pickK_spec ht l1 hl1 hne
   have h0 : decide ((l1.length : Int) > 0) = true := by simpa using List.length_pos_iff.2 hne
   have hfin : ∀ {k x : Nat}, k = pickK rows l1 → l1[k]? = some x → ∀ {v' J'}, IsRow (l1.take k ++ l1.drop (k + 1)) v' →
       ∃ (m' : Nat) (b' : List Nat × List Nat × AV × List AObj), m' < m ∧ (v' = b'.2.2.1 ∧ AV.tsl 1 1 (out.map nrow ++ [[.sc (.int .i64 x)]]) = .tsl 1 1 (b'.1.map nrow)) ∧ (.cells [.d vl, .d ve, .d (dRows rows)] :: .row 3 1 (out.length + 1) :: J') = .cells [.d vl, .d ve, .d (dRows rows)] :: .row 3 1 b'.1.length :: b'.2.2.2 ∧ m' = b'.2.1.length ∧ b'.1 ++ arrN rows b'.2.1.length b'.2.1 = arrN rows l.length l ∧ (∀ j ∈ b'.2.1, j < n) ∧ b'.1.length + b'.2.1.length ≤ 1000000 ∧ IsRow b'.2.1 b'.2.2.1 := by
     intro k x hk hx v' J' f5
     subst hk
     have hxx : l1[pickK rows l1] = x := by rw [List.getElem?_eq_getElem hpk] at hx; exact Option.some.inj hx
     have hlen' : (l1.eraseIdx (pickK rows l1)).length = l1.length - 1 := List.length_eraseIdx_of_lt hpk
     refine ⟨_, (out ++ [x], l1.eraseIdx (pickK rows l1), v', J'), ?_, ⟨rfl, by simp [nrow]⟩, by simp, rfl, ?_, fun j hj => hl1 j (List.mem_of_mem_eraseIdx hj), ?_, by rw [List.eraseIdx_eq_take_drop_succ]; exact f5⟩
     · dsimp only; omega
     · dsimp only
       rw [← he, arrN_cons hpk, hxx, List.append_assoc]; rfl
     · simp; omega
   rcases hv with hv | ⟨id, hv⟩
   all_goals (
     simp only [hv, h0, roomOk, ↓Both_true, ↓Both_false, wx, reduceCtorEq, reduceIte, Nat.reduceAdd, Nat.reduceEqDiff, Nat.reduceLT, Nat.reduceLeDiff]
     refine LoopK.count (fun k => [(6, .d (.sc (.int .i64 k))), (1, v), (2, .ptr 0 0), (5, .tsl 1 1 (out.map nrow))]) (fun _ => .cells [.d vl, .d ve, .d (dRows rows)] :: .row 3 1 out.length :: J) (fun _ => True) (pickK rows l1) (by simp [SubB, Go.Bb.look, hv]) rfl trivial fun k hk _ => ?_
     have hkl : k < l1.length := by omega
     have h2 : l1[k]? = some l1[k] := List.getElem?_eq_getElem hkl
     have h3 : IntKind.i64.wrap ((k : Int) + 1) = ((k + 1 : Nat) : Int) := wrapN (by omega) (by omega)
     have hc := free_fn vl ve hq (hl1 l1[k] (List.getElem_mem _)) hl1 (by omega)
     have hp2' : k < pickK rows l1 → ∃ j, j ∈ l1 ∧ bef rows j l1[k] = true := fun h => hp2 k h
     generalize hx : l1[k] = x at h2 hc hp2'
     have h7 : (out.length + 1) * 8 ≤ 140737488355328 := by omega
     have h8 : out.length ≤ 9223372036854775806 := by omega
     have i1 : (k : Int) ≤ (l1.length : Int) := by omega
     have i2 : ((k + 1 : Nat) : Int) ≤ (l1.length : Int) := by omega
     have i3 : (l1.take k).length * 8 ≤ 140737488355328 := by simp; omega
     have i4 : (l1.take k).length ≤ 9223372036854775807 := by simp; omega
     have i5 : ((l1.take k).length + (l1.drop (k + 1)).length) * 8 ≤ 140737488355328 := by simp; omega
     have i6 : (l1.take k).length + (l1.drop (k + 1)).length ≤ 9223372036854775807 := by simp; omega
     by_cases hlt : k < pickK rows l1
     · have h4 : decide (((k + 1 : Nat) : Int) < (l1.length : Int)) = true := by simp; omega
       have hany : (l1.any fun j => bef rows j x) = true := by
         obtain ⟨j, hj1, hj2⟩ := hp2' hlt
         exact List.any_eq_true.2 ⟨j, hj1, hj2⟩
       simp only [hv, h0, h2, h3, h4, nrow, dBool, roomOk, ↓Both_true, ↓Both_false, wx, reduceCtorEq, reduceIte, Nat.reduceAdd, Nat.reduceEqDiff, Nat.reduceLT, Nat.reduceLeDiff]
       refine CallM.data hc rfl ?_
       simp only [hany, dBool, h0, h2, h3, h4, hlt, nrow, roomOk, ↓Both_true, ↓Both_false, wx, reduceCtorEq, reduceIte, Nat.reduceAdd, Nat.reduceEqDiff, Nat.reduceLT, Nat.reduceLeDiff]
       rfl
     · have hkp : k = pickK rows l1 := by omega
       have hfree : (l1.any fun j => bef rows j x) = false := by
         rw [List.any_eq_false]; intro j hj; subst hx; subst hkp; simp [hp1 j hj]
       cases h4 : decide (((k + 1 : Nat) : Int) < (l1.length : Int)) with
       | false =>
         simp only [hv, h0, h2, h3, h4, h7, h8, i1, i2, i3, i4, i5, i6, nrow, dBool, roomOk, ↓Both_true, ↓Both_false, wx, reduceCtorEq, reduceIte, Nat.reduceAdd, Nat.reduceEqDiff, Nat.reduceLT, Nat.reduceLeDiff, wj, ← List.map_take, ← List.map_drop]
         exact ⟨(ordF_coarse (by simp only [List.map_cons, List.map_nil, coarse_rd, coarse_wr]; rfl)), (ordF_coarse (by simp only [List.map_cons, List.map_nil, coarse_rd, coarse_wr]; rfl)), hfin hkp h2 (.inr ⟨_, by simp only [List.map_append]; rfl⟩)⟩
       | true =>
         simp only [hv, h0, h2, h3, h4, h7, h8, nrow, dBool, roomOk, ↓Both_true, ↓Both_false, wx, reduceCtorEq, reduceIte, Nat.reduceAdd, Nat.reduceEqDiff, Nat.reduceLT, Nat.reduceLeDiff]
         refine CallM.data hc rfl ?_
         simp only [hfree, dBool, h0, h2, h3, h4, h7, h8, i1, i2, i3, i4, i5, i6, nrow, roomOk, ↓Both_true, ↓Both_false, wx, reduceCtorEq, reduceIte, Nat.reduceAdd, Nat.reduceEqDiff, Nat.reduceLT, Nat.reduceLeDiff, wj, ← List.map_take, ← List.map_drop]
         exact ⟨(ordF_coarse (by simp only [List.map_cons, List.map_nil, coarse_rd, coarse_wr]; rfl)), (ordF_coarse (by simp only [List.map_cons, List.map_nil, coarse_rd, coarse_wr]; rfl)), hfin hkp h2 (.inr ⟨_, by simp only [List.map_append]; rfl⟩)⟩)
end Go.Proofs.Lg

namespace Go.Proofs.Lg
open Go Go.Ab Go.Bb Go.Proofs.Lh
theorem unset_stray (rows : List (List Bool)) (l : List Nat) (i : Nat) : (l.any fun j => strayB rows i j) = unset rows l i := by
 unfold unset strayB relat
 congr 1
 funext j
 have : decide (j ≠ i) = decide (i ≠ j) := by simp [eq_comm]
 rw [this, Bool.not_or, Bool.and_assoc]
theorem inL_take {rows : List (List Bool)} {l : List Nat} (l0 : List Nat) {k : Nat} (hk : k < l.length) : inL rows l0 (l.take (k + 1)) = if unset rows l0 l[k] then inL rows l0 (l.take k) else inL rows l0 (l.take k) ++ [l[k]] := by
 rw [List.take_succ_eq_append_getElem hk, inL_snoc]
theorem inL_le (rows : List (List Bool)) (l0 l : List Nat) (k : Nat) : (inL rows l0 (l.take k)).length ≤ k := by
 have := List.length_filter_le (fun i => !unset rows l0 i) (l.take k)
 unfold inL
 rw [List.length_take] at this
 omega
theorem livL_lt {ls : List Vtx} {n : Nat} (hn : n = ls.length) : ∀ j ∈ livL ls, j < n := fun j hj => by
 unfold livL at hj
 obtain ⟨_, x, hx, _⟩ := (livFrom_mem ls 0 j).1 hj
 have := (List.getElem?_eq_some_iff.1 hx).1
 omega
theorem livL_len (ls : List Vtx) : (livL ls).length ≤ ls.length := livFrom_length ls 0
def setR (rows : List (List Bool)) (l : List Nat) : List Nat := arrN rows (inL rows l l).length (inL rows l l)
theorem settledM_fn (ve : D) (ls : List Vtx) {n : Nat} {rows : List (List Bool)} (ht : TransR n rows) (hq : Sq n rows) (hn : n = ls.length) (hok : ∀ x ∈ ls, x.id.length = 32) (hll : ls.length ≤ 1000000) : AFn Tryz.prog 40 [dOrd (dLines ls) ve rows] (dNats (setR rows (livL ls))) := by
 have hc0 := living_fn ve ls (rows := rows) (by rw [hq.1, hn]) hok hll
 have hl := livL_lt hn
 have hlen := livL_len ls
 generalize livL ls = l at hc0 hl hlen ⊢
 refine AFn_of (F := k_refSettledM) (okb_refSettledM.trans (by kernel_rfl)) (by simp [k_refSettledM]) ?_
 simp only [k_refSettledM, dOrd, dNats, dNat, dBool, roomOk, ↓Both_true, ↓Both_false, wx, reduceCtorEq, reduceIte, Nat.reduceAdd, Nat.reduceEqDiff, Nat.reduceLT, Nat.reduceLeDiff]
 refine CallM.data hc0 rfl ?_
 simp only [dNats, roomOk, ↓Both_true, ↓Both_false, wx, reduceCtorEq, reduceIte, Nat.reduceAdd, Nat.reduceEqDiff, Nat.reduceLT, Nat.reduceLeDiff]
 refine LoopK.countJ (fun k => [(5, .d (.sc (.int .i64 k))), (4, .d (.sl 1 (l.map nrow))), (1, .ptr 0 0), (3, .tsl 1 1 ((inL rows l (l.take k)).map nrow))]) (fun k J => .cells [.d (dLines ls), .d ve, .d (dRows rows)] :: .row 3 1 (inL rows l (l.take k)).length :: J) (fun _ => True) l.length [] (by simp [SubB, Go.Bb.look, inL]) rfl trivial fun k J hk _ => ?_
 by_cases hlt : k < l.length
 · have h1 : decide ((k : Int) < (l.length : Int)) = true := by simpa using hlt
   have h2 : l[k]? = some l[k] := List.getElem?_eq_getElem hlt
   have h3 : IntKind.i64.wrap ((k : Int) + 1) = ((k + 1 : Nat) : Int) := wrapN (by omega) (by omega)
   have h4 := inL_take (rows := rows) l hlt
   have h6 := inL_le rows l l k
   have h7 : ((inL rows l (l.take k)).length + 1) * 8 ≤ 140737488355328 := by omega
   have h8 : (inL rows l (l.take k)).length ≤ 9223372036854775806 := by omega
   have hc := isSettled_fn (dLines ls) ve hq (hl l[k] (List.getElem_mem _)) hl (by omega)
   rw [unset_stray] at hc
   generalize l[k] = x at h2 h4 hc
   simp only [h1, h2, nrow, roomOk, ↓Both_true, ↓Both_false, wx, reduceCtorEq, reduceIte, Nat.reduceAdd, Nat.reduceEqDiff, Nat.reduceLT, Nat.reduceLeDiff]
   refine CallM.data hc rfl ?_
   cases hb : unset rows l x with
   | true =>
     rw [hb] at h4
     simp only [h2, h3, h4, hb, hlt, dBool, nrow, roomOk, ↓Both_true, ↓Both_false, wx, reduceCtorEq, reduceIte, Nat.reduceAdd, Nat.reduceEqDiff, Nat.reduceLT, Nat.reduceLeDiff]
     exact ⟨rfl, _, rfl⟩
   | false =>
     rw [hb, if_neg (by simp)] at h4
     simp only [h2, h3, h4, h7, h8, hb, hlt, dBool, nrow, List.map_append, roomOk, ↓Both_true, ↓Both_false, wx, reduceCtorEq, reduceIte, Nat.reduceAdd, Nat.reduceEqDiff, Nat.reduceLT, Nat.reduceLeDiff]
     exact ⟨rfl, _, rfl⟩
 · have h1 : decide ((k : Int) < (l.length : Int)) = false := by simpa using hlt
   have h2 : l.take k = l := List.take_of_length_le (by omega)
   have hll' : (inL rows l l).length ≤ 1000000 := by have := inL_le rows l l l.length; rw [List.take_length] at this; omega
   have hc := arranged_fn (dLines ls) ve ht hq (l := inL rows l l) (fun j hj => hl j (List.mem_filter.1 hj).1) hll'
   simp only [h1, h2, roomOk, ↓Both_true, ↓Both_false, wx, reduceCtorEq, reduceIte, Nat.reduceAdd, Nat.reduceEqDiff, Nat.reduceLT, Nat.reduceLeDiff]
   refine CallM.data hc rfl ?_
   simp only [dNats, setR, roomOk, ↓Both_true, ↓Both_false, wx, reduceCtorEq, reduceIte, Nat.reduceAdd, Nat.reduceEqDiff, Nat.reduceLT, Nat.reduceLeDiff]
theorem filter_take {α : Type} (p : α → Bool) {l : List α} {k : Nat} (hk : k < l.length) : (l.take (k + 1)).filter p = if p l[k] then (l.take k).filter p ++ [l[k]] else (l.take k).filter p := by
 rw [List.take_succ_eq_append_getElem hk, List.filter_append]
 cases h : p l[k] <;> simp [h]
theorem filter_le {α : Type} (p : α → Bool) (l : List α) (k : Nat) : ((l.take k).filter p).length ≤ k := by
 have := List.length_filter_le p (l.take k)
 rw [List.length_take] at this
 omega
theorem gap_fn (ve : D) (ls : List Vtx) {n : Nat} {rows : List (List Bool)} (hq : Sq n rows) (hn : n = ls.length) (hok : ∀ x ∈ ls, x.id.length = 32) (hll : ls.length ≤ 1000000) {inn : List Nat} (hi : ∀ j ∈ inn, j < n) (hil : inn.length ≤ 1000000) (m : Nat) : AFn Tryz.prog 44 [dOrd (dLines ls) ve rows, dNats inn, dNat m] (dNats (gapR rows (livL ls) inn m)) := by
 have hc0 := living_fn ve ls (rows := rows) (by rw [hq.1, hn]) hok hll
 have hl := livL_lt hn
 have hlen := livL_len ls
 unfold gapR
 generalize livL ls = l at hc0 hl hlen ⊢
 generalize hp : (fun i => !inn.contains i && gapN rows inn i == m) = p
 refine AFn_of (F := k_refGap) (okb_refGap.trans (by kernel_rfl)) (by simp [k_refGap]) ?_
 simp only [k_refGap, dOrd, dNats, dNat, dBool, roomOk, ↓Both_true, ↓Both_false, wx, reduceCtorEq, reduceIte, Nat.reduceAdd, Nat.reduceEqDiff, Nat.reduceLT, Nat.reduceLeDiff]
 refine CallM.data hc0 rfl ?_
 simp only [dNats, roomOk, ↓Both_true, ↓Both_false, wx, reduceCtorEq, reduceIte, Nat.reduceAdd, Nat.reduceEqDiff, Nat.reduceLT, Nat.reduceLeDiff]
 refine LoopK.countJ (fun k => [(9, .d (.sc (.int .i64 k))), (8, .d (.sl 1 (l.map nrow))), (3, .ptr 0 0), (1, .d (.sl 1 (inn.map nrow))), (2, .d (.sc (.int .i64 m))), (7, .tsl 1 1 (((l.take k).filter p).map nrow))]) (fun k J => .cells [.d (dLines ls), .d ve, .d (dRows rows)] :: .row 3 1 ((l.take k).filter p).length :: J) (fun _ => True) l.length [] (by simp [SubB, Go.Bb.look]) rfl trivial fun k J hk _ => ?_
 by_cases hlt : k < l.length
 · have h1 : decide ((k : Int) < (l.length : Int)) = true := by simpa using hlt
   have h2 : l[k]? = some l[k] := List.getElem?_eq_getElem hlt
   have h3 : IntKind.i64.wrap ((k : Int) + 1) = ((k + 1 : Nat) : Int) := wrapN (by omega) (by omega)
   have h4 := filter_take p hlt
   have h6 := filter_le p l k
   have h7 : (((l.take k).filter p).length + 1) * 8 ≤ 140737488355328 := by omega
   have h8 : ((l.take k).filter p).length ≤ 9223372036854775806 := by omega
   have hc := has_fn inn l[k] hil
   have hxn := hl l[k] (List.getElem_mem _)
   generalize l[k] = x at h2 h4 hc hxn
   have hpx : p x = (!(inn.any fun j => j == x) && gapN rows inn x == m) := by
     subst hp
     dsimp only
     congr 1
     rw [List.contains_eq_any_beq]
     congr 1; congr 1; funext j; exact Bool.beq_comm
   simp only [h1, h2, nrow, roomOk, ↓Both_true, ↓Both_false, wx, reduceCtorEq, reduceIte, Nat.reduceAdd, Nat.reduceEqDiff, Nat.reduceLT, Nat.reduceLeDiff]
   refine CallM.data hc rfl ?_
   cases hb : inn.any fun j => j == x with
   | true =>
     have hpf : p x = false := by rw [hpx, hb]; rfl
     rw [hpf] at h4
     simp only [h3, h4, hb, hlt, dBool, nrow, roomOk, ↓Both_true, ↓Both_false, wx, reduceCtorEq, reduceIte, Nat.reduceAdd, Nat.reduceEqDiff, Nat.reduceLT, Nat.reduceLeDiff]
     exact ⟨_, rfl⟩
   | false =>
     simp only [hb, dBool, roomOk, ↓Both_true, ↓Both_false, wx, reduceCtorEq, reduceIte, Nat.reduceAdd, Nat.reduceEqDiff, Nat.reduceLT, Nat.reduceLeDiff]
     refine LoopK.count (fun q => [(11, .d (.sc (.int .i64 q))), (10, .d (.sc (.int .i64 ((inn.take q).filter fun j => bef rows j x).length))), (9, .d (.sc (.int .i64 k))), (8, .d (.sl 1 (l.map nrow))), (3, .ptr 0 0), (1, .d (.sl 1 (inn.map nrow))), (2, .d (.sc (.int .i64 m))), (7, .tsl 1 1 (((l.take k).filter p).map nrow))]) (fun _ => .cells [.d (dLines ls), .d ve, .d (dRows rows)] :: .row 3 1 ((l.take k).filter p).length :: J) (fun _ => True) inn.length (by simp [SubB, Go.Bb.look]) rfl trivial fun q hqk _ => ?_
     by_cases hqt : q < inn.length
     · have g1 : decide ((q : Int) < (inn.length : Int)) = true := by simpa using hqt
       have g2 : inn[q]? = some inn[q] := List.getElem?_eq_getElem hqt
       have g3 : IntKind.i64.wrap ((q : Int) + 1) = ((q + 1 : Nat) : Int) := wrapN (by omega) (by omega)
       have g4 := filter_take (fun j => bef rows j x) hqt
       have g5 := filter_le (fun j => bef rows j x) inn q
       have g6 : IntKind.i64.wrap ((((inn.take q).filter fun j => bef rows j x).length : Int) + 1) = ((((inn.take q).filter fun j => bef rows j x).length + 1 : Nat) : Int) := wrapN (by omega) (by omega)
       have hc := before_fn (dLines ls) ve hq (hi inn[q] (List.getElem_mem _)) hxn
       generalize inn[q] = y at g2 g4 hc
       simp only [g1, g2, h2, nrow, roomOk, ↓Both_true, ↓Both_false, wx, reduceCtorEq, reduceIte, Nat.reduceAdd, Nat.reduceEqDiff, Nat.reduceLT, Nat.reduceLeDiff]
       refine CallM.data hc rfl ?_
       cases hb2 : bef rows y x with
       | true =>
         rw [hb2, if_pos rfl] at g4
         simp only [g3, g4, g6, hb2, hqt, dBool, roomOk, ↓Both_true, ↓Both_false, wx, reduceCtorEq, reduceIte, Nat.reduceAdd, Nat.reduceEqDiff, Nat.reduceLT, Nat.reduceLeDiff]
         rfl
       | false =>
         rw [hb2, if_neg (by simp)] at g4
         simp only [g3, g4, hb2, hqt, dBool, roomOk, ↓Both_true, ↓Both_false, wx, reduceCtorEq, reduceIte, Nat.reduceAdd, Nat.reduceEqDiff, Nat.reduceLT, Nat.reduceLeDiff]
         rfl
     · have g1 : decide ((q : Int) < (inn.length : Int)) = false := by simpa using hqt
       have g2 : inn.take q = inn := List.take_of_length_le (by omega)
       have g3 : ((((inn.filter fun j => bef rows j x).length : Nat) : Int) == (m : Int)) = (gapN rows inn x == m) := by
         unfold gapN; rw [Bool.eq_iff_iff]; simp; omega
       rw [hb] at hpx
       simp only [g1, g2, g3, roomOk, ↓Both_true, ↓Both_false, wx, reduceCtorEq, reduceIte, Nat.reduceAdd, Nat.reduceEqDiff, Nat.reduceLT, Nat.reduceLeDiff]
       cases hb3 : gapN rows inn x == m with
       | true =>
         have hpf : p x = true := by rw [hpx, hb3]; rfl
         rw [hpf, if_pos rfl] at h4
         simp only [h2, h3, h4, h7, h8, hb3, hlt, dBool, nrow, List.map_append, roomOk, ↓Both_true, ↓Both_false, wx, reduceCtorEq, reduceIte, Nat.reduceAdd, Nat.reduceEqDiff, Nat.reduceLT, Nat.reduceLeDiff]
         exact ⟨_, rfl⟩
       | false =>
         have hpf : p x = false := by rw [hpx, hb3]; rfl
         rw [hpf, if_neg (by simp)] at h4
         simp only [h3, h4, hb3, hlt, dBool, roomOk, ↓Both_true, ↓Both_false, wx, reduceCtorEq, reduceIte, Nat.reduceAdd, Nat.reduceEqDiff, Nat.reduceLT, Nat.reduceLeDiff]
         exact ⟨_, rfl⟩
 · have h1 : decide ((k : Int) < (l.length : Int)) = false := by simpa using hlt
   have h2 : l.take k = l := List.take_of_length_le (by omega)
   simp only [h1, h2, roomOk, ↓Both_true, ↓Both_false, wx, reduceCtorEq, reduceIte, Nat.reduceAdd, Nat.reduceEqDiff, Nat.reduceLT, Nat.reduceLeDiff]
end Go.Proofs.Lg
