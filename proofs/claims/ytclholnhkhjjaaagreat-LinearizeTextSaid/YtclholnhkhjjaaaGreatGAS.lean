/-
  Part GAS of this claim's proof. Joined by merge.py from the texts of wip/tpl.
-/
import Derived.Test.YtclholnhkhjjaaaGreatGAR
import Derived.RangeFuncNested
import Derived.RangeFuncBox
import Derived.RangeFuncBound
import Derived.RangeFuncLeaves
import Derived.Test.YtclholnhkhjjaaaGreatGAQ
import Derived.Test.YtclholnhkhjjaaaGreatGAL
set_option linter.unusedVariables false
set_option linter.unusedSimpArgs false
set_option linter.unnecessarySimpa false
namespace Go.Proofs.Lg
def GoodReg (r : Reg) : Prop := (r.conflict = false ∧ r.lines ≠ [] ∧ r.sides = []) ∨ (r.conflict = true ∧ r.lines = [] ∧ r.sides ≠ [] ∧ ∀ s ∈ r.sides, s ≠ [])
def Alter : Bool → List Reg → Prop
 | _, [] => True
 | p, r :: l => (p = true ∨ r.conflict = true) ∧ Alter r.conflict l
theorem alter_append : ∀ (p : Bool) (a b : List Reg), Alter p (a ++ b) ↔ Alter p a ∧ Alter ((a.getLast?.map (·.conflict)).getD p) b
 | p, [], b => by simp [Alter]
 | p, r :: a, b => by
   have ih := alter_append r.conflict a b
   cases a with
   | nil => simp only [List.cons_append, List.nil_append, Alter, List.getLast?_singleton, Option.map_some, Option.getD_some, and_true]
   | cons s a =>
     rw [List.cons_append]
     simp only [Alter] at ih ⊢
     rw [List.getLast?_cons_cons]
     constructor
     · rintro ⟨h1, h2⟩
       have h3 := ih.1 h2
       refine ⟨⟨h1, h3.1⟩, ?_⟩
       cases h : (s :: a).getLast? with
       | none => simp at h
       | some x => rw [h] at h3; exact h3.2
     · rintro ⟨⟨h1, h2⟩, h3⟩
       refine ⟨h1, ih.2 ⟨h2, ?_⟩⟩
       cases h : (s :: a).getLast? with
       | none => simp at h
       | some x => rw [h] at h3; exact h3
theorem classesL_ne {rows : List (List Bool)} {n : Nat} (ht : TransR n rows) {l : List Nat} (hl : ∀ i ∈ l, i < n) (h : l ≠ []) : classesL rows l ≠ [] := by
 obtain ⟨x, t, rfl⟩ : ∃ x t, l = x :: t := by cases l with | nil => exact absurd rfl h | cons x t => exact ⟨x, t, rfl⟩
 intro e
 have := (classesL_ok ht hl).2 x
 rw [e] at this
 simp at this
structure RunOk (c : List Reg × List Nat) : Prop where
 good : ∀ r ∈ c.1, GoodReg r
 alter : Alter true c.1
 last : ∀ r, c.1.getLast? = some r → r.conflict = true
theorem regStep_ok {rows : List (List Bool)} {n : Nat} (ht : TransR n rows) {inn out : List Nat} (hout : ∀ i ∈ out, i < n) {c : List Reg × List Nat} (hc : RunOk c) (m : Nat) : RunOk (regStep rows inn out c m) := by
 obtain ⟨regs, run⟩ := c
 obtain ⟨h1, h2, h3⟩ := hc
 dsimp only at h1 h2 h3
 have hg : ∀ i ∈ (out.filter fun i => gapN rows inn i == m), i < n := fun i hi => hout i (List.mem_filter.1 hi).1
 unfold regStep
 dsimp only
 generalize (out.filter fun i => gapN rows inn i == m) = g at hg
 have key : RunOk ((if g = [] then (regs, run) else ((if run = [] then regs else regs ++ [⟨false, run, []⟩]) ++ [⟨true, [], classesL rows g⟩], [])).1, run) := by
   by_cases hge : g = []
   · simp only [hge, if_true]; exact ⟨h1, h2, h3⟩
   · have hlast : (regs.getLast?.map (·.conflict)).getD true = true := by
       cases h : regs.getLast? with
       | none => rfl
       | some r => simp [h3 r h]
     have hcf : GoodReg ⟨true, [], classesL rows g⟩ := .inr ⟨rfl, rfl, classesL_ne ht hg hge, (classesL_ok ht hg).1.full⟩
     simp only [hge, if_false]
     by_cases hr : run = []
     · simp only [hr, if_true]
       refine ⟨fun r hr' => ?_, ?_, fun r hr' => ?_⟩
       · rcases List.mem_append.1 hr' with h | h
         · exact h1 r h
         · obtain rfl := List.mem_singleton.1 h; exact hcf
       · rw [alter_append, hlast]
         exact ⟨h2, .inl rfl, trivial⟩
       · rw [List.getLast?_append] at hr'
         simp at hr'; rw [← hr']
     · simp only [hr, if_false]
       refine ⟨fun r hr' => ?_, ?_, fun r hr' => ?_⟩
       · rcases List.mem_append.1 hr' with h | h
         · rcases List.mem_append.1 h with h | h
           · exact h1 r h
           · obtain rfl := List.mem_singleton.1 h; exact .inl ⟨rfl, hr, rfl⟩
         · obtain rfl := List.mem_singleton.1 h; exact hcf
       · rw [List.append_assoc, alter_append, hlast]
         exact ⟨h2, .inl rfl, .inr rfl, trivial⟩
       · rw [List.getLast?_append] at hr'
         simp at hr'; rw [← hr']
 by_cases hge : g = []
 · subst hge
   cases inn[m]? <;> exact ⟨h1, h2, h3⟩
 · simp only [hge, if_false] at key ⊢
   cases inn[m]? <;> exact ⟨key.1, key.2, key.3⟩
theorem regRun_ok {rows : List (List Bool)} {n : Nat} (ht : TransR n rows) {inn out : List Nat} (hout : ∀ i ∈ out, i < n) : ∀ m : Nat, RunOk (regRun rows inn out m)
 | 0 => ⟨by simp [regRun], trivial, by simp [regRun]⟩
 | m + 1 => by rw [regRun_succ]; exact regStep_ok ht hout (regRun_ok ht hout m) m
theorem regionsL_good {n : Nat} {rows : List (List Bool)} {living : List Nat} (h : Lv n rows living) : (∀ r ∈ regionsL rows living, GoodReg r) ∧ Alter true (regionsL rows living) := by
 have hok := regRun_ok (inn := sortB rows (inL rows living living)) h.t (out := outL rows living living) (fun i hi => h.lt i (mem_outL.1 hi).1) ((sortB rows (inL rows living living)).length + 1)
 unfold regionsL
 generalize regRun rows _ _ _ = c at hok
 unfold regEnd
 by_cases hr : c.2 = []
 · rw [if_pos hr]; exact ⟨hok.good, hok.alter⟩
 · rw [if_neg hr]
   refine ⟨fun r hr' => ?_, ?_⟩
   · rcases List.mem_append.1 hr' with h | h
     · exact hok.good r h
     · obtain rfl := List.mem_singleton.1 h; exact .inl ⟨rfl, hr, rfl⟩
   · rw [alter_append]
     refine ⟨hok.alter, .inl ?_, trivial⟩
     cases hl : c.1.getLast? with
     | none => rfl
     | some r => simp [hok.last r hl]
end Go.Proofs.Lg

namespace Go.Proofs.Lg
open Go Go.RowKit Go.Shelf
def ownB (B : Nat) (W : World) (k : Nat) : Prop := k = B ∨ ∃ (v : Value) (t : TypeId) (f : Nat × Nat), W.heap[B]? = some (.cells #[v] t f) ∧ v.ownBlock = some k
def PlainC : Obj → Prop
 | .cells .. => True
 | .map _ _ => True
 | _ => False
structure KeepsR (n₀ B : Nat) (W W' : World) : Prop where
 os : W'.os = W.os
 tape : W'.tape = W.tape
 output : W'.output = W.output
 size : W.heap.size ≤ W'.heap.size
 old : ∀ k, k < n₀ → ¬ ownB B W k → W'.heap[k]? = W.heap[k]?
 block : ∀ (k : Nat) (o : Obj), W.heap[k]? = some o → PlainC o → ¬ ownB B W k → W'.heap[k]? = some o
 own : ∀ k, ownB B W' k → ownB B W k ∨ (W.heap.size ≤ k ∧ n₀ ≤ k)
theorem ownB_same {B k : Nat} {W W' : World} (h : W'.heap[B]? = W.heap[B]?) : ownB B W' k ↔ ownB B W k := by unfold ownB; rw [h]
theorem ownB_nil {B k : Nat} {W : World} {t : TypeId} {f : Nat × Nat} (h : W.heap[B]? = some (.cells #[.slice none 0 0] t f)) (hk : ownB B W k) : k = B := by
 rcases hk with rfl | ⟨v, t', f', h', hv⟩
 · rfl
 · rw [h] at h'
   injection h' with h'
   injection h' with h1 h2 h3
   have : v = .slice none 0 0 := by
     have := congrArg (fun (a : Array Value) => a[0]?) h1
     simpa using this.symm
   subst this
   cases hv
theorem KeepsR.refl (n₀ B : Nat) (W : World) : KeepsR n₀ B W W := ⟨rfl, rfl, rfl, Nat.le_refl _, fun _ _ _ => rfl, fun _ _ h _ _ => h, fun _ h => .inl h⟩
theorem KeepsR.trans {n₀ B : Nat} {A C D : World} (h : KeepsR n₀ B A C) (k : KeepsR n₀ B C D) : KeepsR n₀ B A D := by
 refine ⟨k.os.trans h.os, k.tape.trans h.tape, k.output.trans h.output, Nat.le_trans h.size k.size, fun j hj ho => ?_, fun j o hj hp ho => ?_, fun j hj => ?_⟩
 · refine (k.old j hj fun hc => ?_).trans (h.old j hj ho)
   rcases h.own j hc with h1 | h1
   · exact ho h1
   · omega
 · refine k.block j o (h.block j o hj hp ho) hp fun hc => ?_
   rcases h.own j hc with h1 | h1
   · exact ho h1
   · have := (Array.getElem?_eq_some_iff.1 hj).1; omega
 · rcases k.own j hj with h1 | h1
   · exact h.own j h1
   · have := h.size; exact .inr ⟨by omega, h1.2⟩
theorem KeepsR.of_below {n₀ B : Nat} {A C : World} (hn : n₀ ≤ A.heap.size) (hB : B < A.heap.size) (h : Below A.heap.size A C) : KeepsR n₀ B A C :=
 ⟨h.os, h.tape, h.output, h.size, fun k hk _ => h.block k (Nat.lt_of_lt_of_le hk hn), fun k _ hk _ _ => (h.block k (Array.getElem?_eq_some_iff.1 hk).1).trans hk,
   fun _ hk => .inl ((ownB_same (h.block B hB)).1 hk)⟩
theorem KeepsR.grown {n₀ B : Nat} {A C C' : World} {row : Option Nat} (h : KeepsR n₀ B A C) (g : C.grownBy C' row) (hr : ∀ r, row = some r → A.heap.size ≤ r) (hn : n₀ ≤ A.heap.size) (hB : B < A.heap.size) : KeepsR n₀ B A C' := by
 have hs := h.size
 refine ⟨g.os.trans h.os, g.tape.trans h.tape, g.output.trans h.output, Nat.le_trans h.size g.size, fun k hk ho => ?_, fun k o hk hp ho => ?_, fun k hk => ?_⟩
 · exact (g.block k (by omega) fun e => by have := hr k e.symm; omega).trans (h.old k hk ho)
 · have hkl := (Array.getElem?_eq_some_iff.1 hk).1
   exact (g.block k (by omega) fun e => by have := hr k e.symm; omega).trans (h.block k o hk hp ho)
 · exact h.own k ((ownB_same (g.block B (by omega) fun e => by have := hr B e.symm; omega)).1 hk)
theorem KeepsR.putObj {n₀ B : Nat} {A : World} {l : Nat} {o o' : Obj} (hl : n₀ ≤ l) (hB : B ≠ l) (h : A.heap[l]? = some o) (h1 : o.isCells = false) (h2 : o.isWalk = false) : KeepsR n₀ B A (A.putObj l o') := by
 have g := grownBy_putObj' A l o'
 have hlt := (Array.getElem?_eq_some_iff.1 h).1
 refine ⟨g.os, g.tape, g.output, g.size, fun k hk _ => World.putObj_heap_other (by omega), fun k o1 hk hp _ => ?_, fun k hk => .inl ((ownB_same (World.putObj_heap_other hB)).1 hk)⟩
 by_cases hkl : k = l
 · subst hkl
   rw [h] at hk
   cases hk
   cases o <;> simp_all [PlainC, Obj.isCells, Obj.isWalk]
 · exact (World.putObj_heap_other hkl).trans hk
theorem KeepsR.appended {n₀ B : Nat} {W w1 : World} {t : TypeId} {v v' : Value} (hv : Boxed W B t v) (hn : n₀ ≤ W.heap.size) (hne : some B ≠ v.ownBlock) (hg : W.grownBy w1 v.ownBlock) (hat : v'.ownBlock = v.ownBlock ∨ ∀ g, v'.ownBlock = some g → W.heap.size ≤ g) :
   KeepsR n₀ B W (w1.setCell ⟨B, 0, none⟩ v') := by
 have hown : ∀ k, v.ownBlock = some k → ownB B W k := fun k e => .inr ⟨v, t, _, hv, e⟩
 have hg2 := grownBy_setCell' w1 B v'
 have hb1 : Boxed w1 B t v := hv.kept hg hne
 have hb2 : Boxed (w1.setCell ⟨B, 0, none⟩ v') B t v' := hb1.set v'
 have hkeep : ∀ k, k < W.heap.size → ¬ ownB B W k → (w1.setCell ⟨B, 0, none⟩ v').heap[k]? = W.heap[k]? := fun k hk ho =>
   (Below.heap_setCell _ _ _ _ (fun e => ho (.inl e))).trans (hg.block k hk fun e => ho (hown k e.symm))
 refine ⟨hg2.os.trans hg.os, hg2.tape.trans hg.tape, hg2.output.trans hg.output, Nat.le_trans hg.size hg2.size, fun k hk ho => hkeep k (by omega) ho, fun k o hk _ ho => (hkeep k (Array.getElem?_eq_some_iff.1 hk).1 ho).trans hk, fun k hk => ?_⟩
 rcases hk with rfl | ⟨u, t', f', h', hu⟩
 · exact .inl (.inl rfl)
 · rw [show (w1.setCell ⟨B, 0, none⟩ v').heap[B]? = _ from hb2] at h'
   injection h' with h'
   injection h' with e1 _ _
   have : u = v' := by
     have := congrArg (fun (a : Array Value) => a[0]?) e1
     simpa using this.symm
   subst this
   rcases hat with e | e
   · exact .inl (hown k (by rw [← e]; exact hu))
   · have := e k hu; exact .inr ⟨this, by omega⟩
theorem ownsRow_keepsR {n₀ B : Nat} {W W' : World} {base e size n : Nat} {v : Value} {xs : List Value} (h : W.ownsRow base e size v n xs) (hk : KeepsR n₀ B W W') (ho : ∀ k, ownB B W k → k < base) : W'.ownsRow base e size v n xs := by
 refine ⟨h.1, ?_⟩
 rcases h.2 with h2 | ⟨g, cap, cur, hv, hb, hg, h3⟩
 · exact .inl h2
 · exact .inr ⟨g, cap, cur, hv, hb, hk.block g _ hg trivial (fun hc => by have := ho g hc; omega), h3⟩
theorem KeepsR.cell {n₀ B : Nat} {W W' : World} (hk : KeepsR n₀ B W W') {p : Addr} {u : Value} (hp : p.block < n₀) (ho : ¬ ownB B W p.block) (hc : W.cell? p = some u) : W'.cell? p = some u :=
 (World.cell?_of_block (w := W) (hk.old _ hp ho)).trans hc
def Small (r : Reg) : Prop := r.sides.length ≤ 2000000 ∧ r.lines.length + r.sides.flatten.length ≤ 2000000
def RegOk (W : World) (v : Value) (r : Reg) : Prop := RegAt W v r ∧ Small r
theorem small_settled {l : List Nat} (h : l.length ≤ 2000000) : Small ⟨false, l, []⟩ := ⟨by simp, by simpa using h⟩
theorem arrL_len (rows : List (List Bool)) (l : List Nat) : (arrL rows l).length = l.length := by
 unfold arrL; rw [arrN_length rows _ _ rfl, sortI_length]
theorem classesS_flat (rows : List (List Bool)) (l : List Nat) : ∀ (t : List Nat) (c : List (List Nat) × List Nat), (∀ j ∈ t, j ∈ l) → c.1.flatten.length = c.2.length → (t.foldl (cstep rows l) c).1.flatten.length = (t.foldl (cstep rows l) c).2.length
 | [], _, _, h => h
 | j :: t, c, ht, h => by
   rw [List.foldl_cons]
   refine classesS_flat rows l t _ (fun x hx => ht x (List.mem_cons_of_mem _ hx)) ?_
   unfold cstep
   by_cases hc : c.2.contains j = true
   · rw [if_pos hc]; exact h
   · rw [if_neg hc]
     have hv := (visit_ok rows l l.length c.2 j (ht j List.mem_cons_self) (by simpa using hc)).len
     rw [List.flatten_append, List.length_append, List.flatten_singleton, arrL_len, h]
     dsimp only
     omega
theorem small_contested (rows : List (List Bool)) {g : List Nat} (h : g.length ≤ 2000000) : Small ⟨true, [], classesL rows g⟩ := by
 have h1 := classesS_ok rows g g ([], []) (fun _ h => h) (by have := unseen_le g []; simpa using this) (Nat.le_refl _)
 have h2 := classesS_flat rows g g ([], []) (fun _ h => h) rfl
 unfold Small classesL classesS
 simp only [List.length_nil, Nat.zero_add]
 omega
end Go.Proofs.Lg

namespace Go.Proofs.Lg
open Go
end Go.Proofs.Lg

namespace Go.Proofs.Lg
inductive PathB (E : Nat → Nat → Prop) (k : Nat) (i : Nat) : Nat → Prop
 | edge {j : Nat} : E i j → PathB E k i j
 | step {m j : Nat} : PathB E k i m → m < k → E m j → PathB E k i j
theorem PathB.mono {E : Nat → Nat → Prop} {k k' i j : Nat} (h : PathB E k i j) (hk : k ≤ k') : PathB E k' i j := by
 induction h with
 | edge h => exact .edge h
 | step _ h2 h3 ih => exact .step ih (by omega) h3
theorem PathB.trans {E : Nat → Nat → Prop} {k i m j : Nat} (h : PathB E k i m) (hm : m < k) (h2 : PathB E k m j) : PathB E k i j := by
 induction h2 with
 | edge h3 => exact .step h hm h3
 | step _ h4 h5 ih => exact .step ih h4 h5
theorem PathB.split {E : Nat → Nat → Prop} {k i j : Nat} (h : PathB E (k + 1) i j) : PathB E k i j ∨ (PathB E k i k ∧ PathB E k k j) := by
 induction h with
 | edge h => exact .inl (.edge h)
 | step h1 h2 h3 ih =>
   rename_i m j
   by_cases hm : m = k
   · subst hm
     rcases ih with h | ⟨h, _⟩
     · exact .inr ⟨h, .edge h3⟩
     · exact .inr ⟨h, .edge h3⟩
   · rcases ih with h | ⟨h, h'⟩
     · exact .inl (.step h (by omega) h3)
     · exact .inr ⟨h, .step h' (by omega) h3⟩
def putR (rows : List (List Bool)) (i j : Nat) (b : Bool) : List (List Bool) := rows.set i ((rows.getD i []).set j b)
theorem rel_putR {n : Nat} {rows : List (List Bool)} (hq : Sq n rows) {i j : Nat} (hi : i < n) (hj : j < n) (b : Bool) (x y : Nat) : rel (putR rows i j b) x y = if x = i ∧ y = j then b else rel rows x y := by
 have hil : i < rows.length := by rw [hq.1]; exact hi
 have hrow : (rows.getD i []).length = n := by rw [List.getD_eq_getElem?_getD, List.getElem?_eq_getElem hil]; exact hq.2 _ (List.getElem_mem _)
 unfold rel putR
 simp only [List.getD_eq_getElem?_getD, List.getElem?_set] at hrow ⊢
 by_cases hx : x = i
 · subst hx
   by_cases hy : y = j
   · subst hy
     simp [hil, List.getElem?_set]
     simp [List.getElem?_eq_getElem hil] at hrow
     simp [hrow, hj]
   · have hy' : ¬ j = y := fun e => hy e.symm
     simp [hil, hy, hy']
 · have hx' : ¬ i = x := fun e => hx e.symm
   simp [hx, hx']
theorem sq_putR {n : Nat} {rows : List (List Bool)} (hq : Sq n rows) {i j : Nat} (hi : i < n) (b : Bool) : Sq n (putR rows i j b) := by
 have hil : i < rows.length := by rw [hq.1]; exact hi
 refine ⟨by unfold putR; rw [List.length_set]; exact hq.1, fun r hr => ?_⟩
 unfold putR at hr
 rcases List.mem_or_eq_of_mem_set hr with h | h
 · exact hq.2 r h
 · rw [h, List.length_set, List.getD_eq_getElem?_getD, List.getElem?_eq_getElem hil]; exact hq.2 _ (List.getElem_mem _)
structure WInv (E : Nat → Nat → Prop) (n : Nat) (R₀ R : List (List Bool)) : Prop where
 sq : Sq n R
 sound : ∀ i j, i < n → j < n → rel R i j = true → PathB E n i j
 grow : ∀ i j, rel R₀ i j = true → rel R i j = true
def wput (R : List (List Bool)) (k i j : Nat) : List (List Bool) := putR R i j (rel R i j || (rel R i k && rel R k j))
def warJ (k i : Nat) (R : List (List Bool)) (m : Nat) : List (List Bool) := (List.range m).foldl (fun R j => wput R k i j) R
def warI (n k : Nat) (R : List (List Bool)) (m : Nat) : List (List Bool) := (List.range m).foldl (fun R i => warJ k i R n) R
def war (n : Nat) (R : List (List Bool)) (m : Nat) : List (List Bool) := (List.range m).foldl (fun R k => warI n k R n) R
theorem wput_inv {E : Nat → Nat → Prop} {n k i j : Nat} {R₀ R : List (List Bool)} (h : WInv E n R₀ R) (hk : k < n) (hi : i < n) (hj : j < n) :
   WInv E n R₀ (wput R k i j) ∧ (∀ x y, rel R x y = true → rel (wput R k i j) x y = true) ∧ ((rel R i j || (rel R i k && rel R k j)) = true → rel (wput R k i j) i j = true) := by
 have hg : ∀ x y, rel R x y = true → rel (wput R k i j) x y = true := fun x y hxy => by
   unfold wput
   rw [rel_putR h.sq hi hj]
   split
   · rename_i hh; obtain ⟨rfl, rfl⟩ := hh; simp [hxy]
   · exact hxy
 refine ⟨⟨sq_putR h.sq hi _, fun x y hx hy hxy => ?_, fun x y hxy => hg x y (h.grow x y hxy)⟩, hg, fun hh => ?_⟩
 · unfold wput at hxy
   rw [rel_putR h.sq hi hj] at hxy
   split at hxy
   · rename_i hh
     obtain ⟨rfl, rfl⟩ := hh
     simp only [Bool.or_eq_true, Bool.and_eq_true] at hxy
     rcases hxy with h1 | ⟨h1, h2⟩
     · exact h.sound _ _ hx hy h1
     · exact (h.sound _ _ hx hk h1).trans hk (h.sound _ _ hk hy h2)
   · exact h.sound x y hx hy hxy
 · unfold wput
   rw [rel_putR h.sq hi hj]
   simp [hh]
theorem warJ_succ (k i : Nat) (R : List (List Bool)) (m : Nat) : warJ k i R (m + 1) = wput (warJ k i R m) k i m := by unfold warJ; rw [List.range_succ, List.foldl_append]; rfl
theorem warI_succ (n k : Nat) (R : List (List Bool)) (m : Nat) : warI n k R (m + 1) = warJ k m (warI n k R m) n := by unfold warI; rw [List.range_succ, List.foldl_append]; rfl
theorem war_succ (n : Nat) (R : List (List Bool)) (m : Nat) : war n R (m + 1) = warI n m (war n R m) n := by unfold war; rw [List.range_succ, List.foldl_append]; rfl
theorem warJ_inv {E : Nat → Nat → Prop} {n k i : Nat} {R : List (List Bool)} (h : WInv E n R R) (hk : k < n) (hi : i < n) : ∀ m, m ≤ n → WInv E n R (warJ k i R m) ∧ ∀ j, j < m → (rel R i j || (rel R i k && rel R k j)) = true → rel (warJ k i R m) i j = true
 | 0, _ => ⟨h, fun j hj => by omega⟩
 | m + 1, hm => by
   obtain ⟨h1, h2⟩ := warJ_inv h hk hi m (by omega)
   obtain ⟨k1, k2, k3⟩ := wput_inv h1 hk hi (show m < n by omega)
   rw [warJ_succ]
   refine ⟨k1, fun j hj hh => ?_⟩
   by_cases hjm : j = m
   · subst hjm
     refine k3 ?_
     simp only [Bool.or_eq_true, Bool.and_eq_true] at hh ⊢
     rcases hh with a | ⟨a, b⟩
     · exact .inl (h1.grow _ _ a)
     · exact .inr ⟨h1.grow _ _ a, h1.grow _ _ b⟩
   · exact k2 _ _ (h2 j (by omega) hh)
theorem warI_inv {E : Nat → Nat → Prop} {n k : Nat} {R : List (List Bool)} (h : WInv E n R R) (hk : k < n) : ∀ m, m ≤ n → WInv E n R (warI n k R m) ∧ ∀ i, i < m → ∀ j, j < n → (rel R i j || (rel R i k && rel R k j)) = true → rel (warI n k R m) i j = true
 | 0, _ => ⟨h, fun j hj => by omega⟩
 | m + 1, hm => by
   obtain ⟨h1, h2⟩ := warI_inv h hk m (by omega)
   obtain ⟨k1, k2⟩ := warJ_inv (i := m) (R := warI n k R m) ⟨h1.sq, h1.sound, fun _ _ h => h⟩ hk (by omega) n (Nat.le_refl _)
   rw [warI_succ]
   refine ⟨⟨k1.sq, k1.sound, fun i j hij => k1.grow _ _ (h1.grow _ _ hij)⟩, fun i hi j hj hh => ?_⟩
   by_cases him : i = m
   · subst him
     refine k2 j hj ?_
     simp only [Bool.or_eq_true, Bool.and_eq_true] at hh ⊢
     rcases hh with a | ⟨a, b⟩
     · exact .inl (h1.grow _ _ a)
     · exact .inr ⟨h1.grow _ _ a, h1.grow _ _ b⟩
   · exact k1.grow _ _ (h2 i (by omega) j hj hh)
theorem war_inv {E : Nat → Nat → Prop} {n : Nat} {R : List (List Bool)} (h : WInv E n R R) (h0 : ∀ i j, i < n → j < n → E i j → rel R i j = true) : ∀ m, m ≤ n → WInv E n R (war n R m) ∧ ∀ i j, i < n → j < n → PathB E m i j → rel (war n R m) i j = true
 | 0, _ => ⟨h, fun i j hi hj hp => by
     cases hp with
     | edge he => exact h0 i j hi hj he
     | step _ h2 _ => omega⟩
 | m + 1, hm => by
   obtain ⟨h1, h2⟩ := war_inv h h0 m (by omega)
   obtain ⟨k1, k2⟩ := warI_inv (k := m) (R := war n R m) ⟨h1.sq, h1.sound, fun _ _ h => h⟩ (by omega) n (Nat.le_refl _)
   rw [war_succ]
   refine ⟨⟨k1.sq, k1.sound, fun i j hij => k1.grow _ _ (h1.grow _ _ hij)⟩, fun i j hi hj hp => k2 i hi j hj ?_⟩
   simp only [Bool.or_eq_true, Bool.and_eq_true]
   rcases hp.split with a | ⟨a, b⟩
   · exact .inl (h2 i j hi hj a)
   · exact .inr ⟨h2 i m hi (by omega) a, h2 m j (by omega) hj b⟩
end Go.Proofs.Lg

namespace Go.Proofs.Lg
open Go Go.Ab Go.Bb Go.Proofs.Lh
def brow (r : List Bool) : List D := [.sl 1 (r.map fun b => [.sc (.bool b)])]
def dRows (rows : List (List Bool)) : D := .sl 1 (rows.map brow)
def dOrd (vl ve : D) (rows : List (List Bool)) : D := .agg [vl, ve, dRows rows]
theorem rel_get {n : Nat} {rows : List (List Bool)} (hq : Sq n rows) {i j : Nat} (hi : i < n) (hj : j < n) : ∃ r, rows[i]? = some r ∧ r[j]? = some (rel rows i j) := by
 have hil : i < rows.length := by rw [hq.1]; exact hi
 have hr : rows[i]? = some rows[i] := List.getElem?_eq_getElem hil
 have hl : rows[i].length = n := hq.2 _ (List.getElem_mem _)
 refine ⟨_, hr, ?_⟩
 have : rows[i][j]? = some rows[i][j] := List.getElem?_eq_getElem (by omega)
 rw [this]
 unfold rel
 simp [List.getD_eq_getElem?_getD, hr, this]
theorem before_fn (vl ve : D) {n : Nat} {rows : List (List Bool)} (hq : Sq n rows) {i j : Nat} (hi : i < n) (hj : j < n) : AFn Tryz.prog 86 [dOrd vl ve rows, dNat i, dNat j] (dBool (bef rows i j)) := by
 obtain ⟨ri, r1, r2⟩ := rel_get hq hi hj
 obtain ⟨rj, r3, r4⟩ := rel_get hq hj hi
 refine AFn_of (F := k_refBefore) (okb_refBefore.trans (by kernel_rfl)) (by simp [k_refBefore]) ?_
 unfold bef
 generalize rel rows i j = x at *
 generalize rel rows j i = y at *
 cases x with
 | true => simp only [k_refBefore, dOrd, dRows, dNat, dBool, brow, r1, r2, r3, r4, ↓Both_true, ↓Both_false, wx, reduceCtorEq, reduceIte, Nat.reduceAdd, Nat.reduceEqDiff, Nat.reduceLT, Nat.reduceLeDiff]
 | false => simp only [k_refBefore, dOrd, dRows, dNat, dBool, brow, r1, r2, r3, r4, ↓Both_true, ↓Both_false, wx, reduceCtorEq, reduceIte, Nat.reduceAdd, Nat.reduceEqDiff, Nat.reduceLT, Nat.reduceLeDiff]
theorem together_fn (vl ve : D) {n : Nat} {rows : List (List Bool)} (hq : Sq n rows) {i j : Nat} (hi : i < n) (hj : j < n) : AFn Tryz.prog 108 [dOrd vl ve rows, dNat i, dNat j] (dBool (rel rows i j || rel rows j i)) := by
 obtain ⟨ri, r1, r2⟩ := rel_get hq hi hj
 obtain ⟨rj, r3, r4⟩ := rel_get hq hj hi
 refine AFn_of (F := k_refTogether) (okb_refTogether.trans (by kernel_rfl)) (by simp [k_refTogether]) ?_
 generalize rel rows i j = x at *
 generalize rel rows j i = y at *
 cases x with
 | true => simp only [k_refTogether, dOrd, dRows, dNat, dBool, brow, r1, r2, r3, r4, ↓Both_true, ↓Both_false, wx, reduceCtorEq, reduceIte, Nat.reduceAdd, Nat.reduceEqDiff, Nat.reduceLT, Nat.reduceLeDiff, Bool.true_or]
 | false => simp only [k_refTogether, dOrd, dRows, dNat, dBool, brow, r1, r2, r3, r4, ↓Both_true, ↓Both_false, wx, reduceCtorEq, reduceIte, Nat.reduceAdd, Nat.reduceEqDiff, Nat.reduceLT, Nat.reduceLeDiff, Bool.false_or]
theorem free_fn (vl ve : D) {n : Nat} {rows : List (List Bool)} (hq : Sq n rows) {i : Nat} (hi : i < n) {l : List Nat} (hl : ∀ j ∈ l, j < n) (hll : l.length ≤ 1000000) : AFn Tryz.prog 105 [dOrd vl ve rows, dNat i, dNats l] (dBool (!l.any fun j => bef rows j i)) := by
 refine AFn_of (F := k_refFree) (okb_refFree.trans (by kernel_rfl)) (by simp [k_refFree]) ?_
 simp only [k_refFree, dOrd, dNats, dNat, dBool, ↓Both_true, ↓Both_false, wx, reduceCtorEq, reduceIte, Nat.reduceAdd, Nat.reduceEqDiff, Nat.reduceLT, Nat.reduceLeDiff]
 refine LoopK.count (fun k => [(7, .d (.sc (.int .i64 k))), (3, .ptr 0 0), (1, .d (.sc (.int .i64 i))), (2, .d (.sl 1 (l.map nrow)))]) (fun _ => [.cells [.d vl, .d ve, .d (dRows rows)]]) (fun k => ((l.take k).any fun j => bef rows j i) = false) l.length (by simp [SubB, Go.Bb.look]) rfl (by simp) fun k hk hany => ?_
 by_cases hlt : k < l.length
 · have h1 : decide ((k : Int) < (l.length : Int)) = true := by simpa using hlt
   have h2 : l[k]? = some l[k] := List.getElem?_eq_getElem hlt
   have h3 : IntKind.i64.wrap ((k : Int) + 1) = ((k + 1 : Nat) : Int) := wrapN (by omega) (by omega)
   have h4 : bef rows l[k] i = false → ((l.take (k + 1)).any fun j => bef rows j i) = false := fun h => any_take_step (p := fun j => bef rows j i) hany hlt h
   have h5 : bef rows l[k] i = true → (l.any fun j => bef rows j i) = true := fun h => any_hit (p := fun j => bef rows j i) hlt h
   have hjn := hl l[k] (List.getElem_mem _)
   generalize l[k] = y at h2 h4 h5 hjn
   have hc := before_fn vl ve hq hjn hi
   simp only [h1, h2, nrow, ↓Both_true, ↓Both_false, wx, reduceCtorEq, reduceIte, Nat.reduceAdd, Nat.reduceEqDiff, Nat.reduceLT, Nat.reduceLeDiff]
   refine CallM.data hc rfl ?_
   cases hb : bef rows y i with
   | true => simp only [h5 hb, hb, dBool, ↓Both_true, ↓Both_false, wx, reduceCtorEq, reduceIte, Nat.reduceAdd, Nat.reduceEqDiff, Nat.reduceLT, Nat.reduceLeDiff]; rfl
   | false => simp only [h3, h4 hb, hb, hlt, dBool, ↓Both_true, ↓Both_false, wx, reduceCtorEq, reduceIte, Nat.reduceAdd, Nat.reduceEqDiff, Nat.reduceLT, Nat.reduceLeDiff]; rfl
 · have h1 : decide ((k : Int) < (l.length : Int)) = false := by simpa using hlt
   simp only [h1, any_take_end hany (by omega), ↓Both_true, ↓Both_false, wx, reduceCtorEq, reduceIte, Nat.reduceAdd, Nat.reduceEqDiff, Nat.reduceLT, Nat.reduceLeDiff]
def strayB (rows : List (List Bool)) (i j : Nat) : Bool := decide (j ≠ i) && !bef rows i j && !bef rows j i
theorem isSettled_fn (vl ve : D) {n : Nat} {rows : List (List Bool)} (hq : Sq n rows) {i : Nat} (hi : i < n) {l : List Nat} (hl : ∀ j ∈ l, j < n) (hll : l.length ≤ 1000000) : AFn Tryz.prog 79 [dOrd vl ve rows, dNat i, dNats l] (dBool (!l.any fun j => strayB rows i j)) := by
 refine AFn_of (F := k_refIsSettled) (okb_refIsSettled.trans (by kernel_rfl)) (by simp [k_refIsSettled]) ?_
 simp only [k_refIsSettled, dOrd, dNats, dNat, dBool, ↓Both_true, ↓Both_false, wx, reduceCtorEq, reduceIte, Nat.reduceAdd, Nat.reduceEqDiff, Nat.reduceLT, Nat.reduceLeDiff]
 refine LoopK.count (fun k => [(7, .d (.sc (.int .i64 k))), (3, .ptr 0 0), (1, .d (.sc (.int .i64 i))), (2, .d (.sl 1 (l.map nrow)))]) (fun _ => [.cells [.d vl, .d ve, .d (dRows rows)]]) (fun k => ((l.take k).any fun j => strayB rows i j) = false) l.length (by simp [SubB, Go.Bb.look]) rfl (by simp) fun k hk hany => ?_
 by_cases hlt : k < l.length
 · have h1 : decide ((k : Int) < (l.length : Int)) = true := by simpa using hlt
   have h2 : l[k]? = some l[k] := List.getElem?_eq_getElem hlt
   have h3 : IntKind.i64.wrap ((k : Int) + 1) = ((k + 1 : Nat) : Int) := wrapN (by omega) (by omega)
   have h4 : strayB rows i l[k] = false → ((l.take (k + 1)).any fun j => strayB rows i j) = false := fun h => any_take_step (p := fun j => strayB rows i j) hany hlt h
   have h5 : strayB rows i l[k] = true → (l.any fun j => strayB rows i j) = true := fun h => any_hit (p := fun j => strayB rows i j) hlt h
   have hjn := hl l[k] (List.getElem_mem _)
   generalize l[k] = y at h2 h4 h5 hjn
   have hc := before_fn vl ve hq hi hjn
   have hc2 := before_fn vl ve hq hjn hi
   have h6 : ((y : Int) != (i : Int)) = decide (y ≠ i) := by rw [Bool.eq_iff_iff]; simp; omega
   have hs : strayB rows i y = (decide (y ≠ i) && !bef rows i y && !bef rows y i) := rfl
   cases hd : decide (y ≠ i) with
   | false => simp only [h1, h2, h3, h6, hd, h4 (by rw [hs, hd]; rfl), hlt, nrow, ↓Both_true, ↓Both_false, wx, reduceCtorEq, reduceIte, Nat.reduceAdd, Nat.reduceEqDiff, Nat.reduceLT, Nat.reduceLeDiff]; rfl
   | true =>
     simp only [h1, h2, h6, hd, nrow, ↓Both_true, ↓Both_false, wx, reduceCtorEq, reduceIte, Nat.reduceAdd, Nat.reduceEqDiff, Nat.reduceLT, Nat.reduceLeDiff]
     refine CallM.data hc rfl ?_
     cases hb : bef rows i y with
     | true => simp only [h3, hb, h4 (by rw [hs, hd, hb]; rfl), hlt, dBool, ↓Both_true, ↓Both_false, wx, reduceCtorEq, reduceIte, Nat.reduceAdd, Nat.reduceEqDiff, Nat.reduceLT, Nat.reduceLeDiff]; rfl
     | false =>
       simp only [h2, hb, dBool, nrow, ↓Both_true, ↓Both_false, wx, reduceCtorEq, reduceIte, Nat.reduceAdd, Nat.reduceEqDiff, Nat.reduceLT, Nat.reduceLeDiff]
       refine CallM.data hc2 rfl ?_
       cases hb2 : bef rows y i with
       | true => simp only [h3, hb2, h4 (by rw [hs, hd, hb, hb2]; rfl), hlt, dBool, ↓Both_true, ↓Both_false, wx, reduceCtorEq, reduceIte, Nat.reduceAdd, Nat.reduceEqDiff, Nat.reduceLT, Nat.reduceLeDiff]; rfl
       | false => simp only [hb2, h5 (by rw [hs, hd, hb, hb2]; rfl), dBool, ↓Both_true, ↓Both_false, wx, reduceCtorEq, reduceIte, Nat.reduceAdd, Nat.reduceEqDiff, Nat.reduceLT, Nat.reduceLeDiff]; rfl
 · have h1 : decide ((k : Int) < (l.length : Int)) = false := by simpa using hlt
   simp only [h1, any_take_end hany (by omega), ↓Both_true, ↓Both_false, wx, reduceCtorEq, reduceIte, Nat.reduceAdd, Nat.reduceEqDiff, Nat.reduceLT, Nat.reduceLeDiff]
end Go.Proofs.Lg
