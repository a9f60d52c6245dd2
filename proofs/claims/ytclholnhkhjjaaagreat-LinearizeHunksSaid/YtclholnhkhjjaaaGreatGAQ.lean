/-
  Part GAQ of this claim's proof. Joined by merge.py from the texts of wip/tpl.
-/
import Derived.Test.YtclholnhkhjjaaaGreatP1
import Derived.RangeFuncNested
import Derived.RangeFuncBox
import Derived.RangeFuncBound
import Derived.RangeFuncLeaves
import Derived.Test.YtclholnhkhjjaaaGreatGAP
import Derived.Test.YtclholnhkhjjaaaGreatGAL
set_option linter.unusedVariables false
set_option linter.unusedSimpArgs false
set_option linter.unnecessarySimpa false
namespace Go.Proofs.Lg
open Go
def Gr.dim (g : Gr) : Nat := if g.check = 0 then g.lines.length else 0
theorem Gr.sq (g : Gr) : Sq g.dim g.reach := by
 unfold Gr.dim Gr.reach
 split
 · refine ⟨by simp, fun r hr => ?_⟩
   obtain ⟨i, _, rfl⟩ := List.mem_map.1 hr
   rw [fromRow_length, g.followers_length]
 · exact ⟨rfl, by simp⟩
theorem Gr.transR (g : Gr) : TransR g.dim g.reach := by
 unfold Gr.dim Gr.reach
 split
 · rename_i h
   have := Gr.followers_valid (Gr.check_ok h).2
   rw [g.followers_length] at this
   exact transR_rows g.followers g.lines.length g.followers_length this
 · intro i j k hi; omega
theorem livFrom_mem : ∀ (l : List Vtx) (k i : Nat), i ∈ livFrom k l ↔ k ≤ i ∧ ∃ x, l[i - k]? = some x ∧ x.living = true
 | [], k, i => by simp [livFrom]
 | x :: l, k, i => by
   have ih := livFrom_mem l (k + 1) i
   by_cases hi : i = k
   · subst hi
     by_cases hx : x.living = true
     · simp [livFrom, hx]
     · simp only [livFrom, hx, Bool.false_eq_true, if_false, ih]
       simp [hx]; omega
   · have e : k ≤ i → (x :: l)[i - k]? = l[i - (k + 1)]? := fun h => by
       rw [show i - k = (i - (k + 1)) + 1 by omega]; rfl
     by_cases hx : x.living = true
     · simp only [livFrom, hx, if_true, List.mem_cons, ih, hi, false_or]
       constructor
       · rintro ⟨h1, h2⟩; exact ⟨by omega, by rw [e (by omega)]; exact h2⟩
       · rintro ⟨h1, h2⟩; exact ⟨by omega, by rw [e h1] at h2; exact h2⟩
     · simp only [livFrom, hx, Bool.false_eq_true, if_false, ih]
       constructor
       · rintro ⟨h1, h2⟩; exact ⟨by omega, by rw [e (by omega)]; exact h2⟩
       · rintro ⟨h1, h2⟩; exact ⟨by omega, by rw [e h1] at h2; exact h2⟩
theorem livFrom_sorted : ∀ (l : List Vtx) (k : Nat), (livFrom k l).Pairwise (· < ·)
 | [], _ => List.Pairwise.nil
 | x :: l, k => by
   unfold livFrom
   split
   · exact List.Pairwise.cons (fun j hj => by have := ((livFrom_mem l (k + 1) j).1 hj).1; omega) (livFrom_sorted l (k + 1))
   · exact livFrom_sorted l (k + 1)
theorem Gr.living_lt (g : Gr) : ∀ i ∈ g.living, i < g.dim := by
 unfold Gr.living Gr.dim
 split
 · intro i hi
   obtain ⟨_, x, hx, _⟩ := (livFrom_mem _ _ _).1 hi
   have := (List.getElem?_eq_some_iff.1 hx).1
   omega
 · simp
theorem Gr.living_sorted (g : Gr) : g.living.Pairwise (· < ·) := by
 unfold Gr.living
 split
 · exact livFrom_sorted _ _
 · exact List.Pairwise.nil
theorem Gr.living_nd (g : Gr) : g.living.Nodup := g.living_sorted.imp fun h => Nat.ne_of_lt h
theorem Gr.lv (g : Gr) : Lv g.dim g.reach g.living := ⟨g.transR, g.living_lt, g.living_nd⟩
theorem Gr.living_len (g : Gr) : g.living.length ≤ g.lines.length := by
 unfold Gr.living
 split
 · have := livFrom_length g.lines 0; unfold livL; exact this
 · simp
theorem Gr.dim_le (g : Gr) : g.dim ≤ g.lines.length := by unfold Gr.dim; split <;> omega
end Go.Proofs.Lg

namespace Go.Proofs.Lg
def GoodReg (r : Reg) : Prop := (r.conflict = false ∧ r.lines ≠ [] ∧ r.sides = []) ∨ (r.conflict = true ∧ r.lines = [] ∧ r.sides ≠ [] ∧ ∀ s ∈ r.sides, s ≠ [])
def Alter : Bool → List Reg → Prop
 | _, [] => True
 | p, r :: l => (p = true ∨ r.conflict = true) ∧ Alter r.conflict l
theorem alter_append : ∀ (p : Bool) (a b : List Reg), Alter p (a ++ b) ↔ Alter p a ∧ Alter ((a.getLast?.map (·.conflict)).getD p) b
 | p, [], b => by simp [Alter]
 | p, r :: a, b => by
   have ih := alter_append r.conflict a b
   cases a with
   | nil => simp only [List.cons_append, List.nil_append, Alter, List.getLast?_singleton, Option.map_some, Option.getD_some, and_true]
   | cons s a =>
     rw [List.cons_append]
     simp only [Alter] at ih ⊢
     rw [List.getLast?_cons_cons]
     constructor
     · rintro ⟨h1, h2⟩
       have h3 := ih.1 h2
       refine ⟨⟨h1, h3.1⟩, ?_⟩
       cases h : (s :: a).getLast? with
       | none => simp at h
       | some x => rw [h] at h3; exact h3.2
     · rintro ⟨⟨h1, h2⟩, h3⟩
       refine ⟨h1, ih.2 ⟨h2, ?_⟩⟩
       cases h : (s :: a).getLast? with
       | none => simp at h
       | some x => rw [h] at h3; exact h3
theorem classesL_ne {rows : List (List Bool)} {n : Nat} (ht : TransR n rows) {l : List Nat} (hl : ∀ i ∈ l, i < n) (h : l ≠ []) : classesL rows l ≠ [] := by
 obtain ⟨x, t, rfl⟩ : ∃ x t, l = x :: t := by cases l with | nil => exact absurd rfl h | cons x t => exact ⟨x, t, rfl⟩
 intro e
 have := (classesL_ok ht hl).2 x
 rw [e] at this
 simp at this
structure RunOk (c : List Reg × List Nat) : Prop where
 good : ∀ r ∈ c.1, GoodReg r
 alter : Alter true c.1
 last : ∀ r, c.1.getLast? = some r → r.conflict = true
theorem regStep_ok {rows : List (List Bool)} {n : Nat} (ht : TransR n rows) {inn out : List Nat} (hout : ∀ i ∈ out, i < n) {c : List Reg × List Nat} (hc : RunOk c) (m : Nat) : RunOk (regStep rows inn out c m) := by
 obtain ⟨regs, run⟩ := c
 obtain ⟨h1, h2, h3⟩ := hc
 dsimp only at h1 h2 h3
 have hg : ∀ i ∈ (out.filter fun i => gapN rows inn i == m), i < n := fun i hi => hout i (List.mem_filter.1 hi).1
 unfold regStep
 dsimp only
 generalize (out.filter fun i => gapN rows inn i == m) = g at hg
 have key : RunOk ((if g = [] then (regs, run) else ((if run = [] then regs else regs ++ [⟨false, run, []⟩]) ++ [⟨true, [], classesL rows g⟩], [])).1, run) := by
   by_cases hge : g = []
   · simp only [hge, if_true]; exact ⟨h1, h2, h3⟩
   · have hlast : (regs.getLast?.map (·.conflict)).getD true = true := by
       cases h : regs.getLast? with
       | none => rfl
       | some r => simp [h3 r h]
     have hcf : GoodReg ⟨true, [], classesL rows g⟩ := .inr ⟨rfl, rfl, classesL_ne ht hg hge, (classesL_ok ht hg).1.full⟩
     simp only [hge, if_false]
     by_cases hr : run = []
     · simp only [hr, if_true]
       refine ⟨fun r hr' => ?_, ?_, fun r hr' => ?_⟩
       · rcases List.mem_append.1 hr' with h | h
         · exact h1 r h
         · obtain rfl := List.mem_singleton.1 h; exact hcf
       · rw [alter_append, hlast]
         exact ⟨h2, .inl rfl, trivial⟩
       · rw [List.getLast?_append] at hr'
         simp at hr'; rw [← hr']
     · simp only [hr, if_false]
       refine ⟨fun r hr' => ?_, ?_, fun r hr' => ?_⟩
       · rcases List.mem_append.1 hr' with h | h
         · rcases List.mem_append.1 h with h | h
           · exact h1 r h
           · obtain rfl := List.mem_singleton.1 h; exact .inl ⟨rfl, hr, rfl⟩
         · obtain rfl := List.mem_singleton.1 h; exact hcf
       · rw [List.append_assoc, alter_append, hlast]
         exact ⟨h2, .inl rfl, .inr rfl, trivial⟩
       · rw [List.getLast?_append] at hr'
         simp at hr'; rw [← hr']
 by_cases hge : g = []
 · subst hge
   cases inn[m]? <;> exact ⟨h1, h2, h3⟩
 · simp only [hge, if_false] at key ⊢
   cases inn[m]? <;> exact ⟨key.1, key.2, key.3⟩
theorem regRun_ok {rows : List (List Bool)} {n : Nat} (ht : TransR n rows) {inn out : List Nat} (hout : ∀ i ∈ out, i < n) : ∀ m : Nat, RunOk (regRun rows inn out m)
 | 0 => ⟨by simp [regRun], trivial, by simp [regRun]⟩
 | m + 1 => by rw [regRun_succ]; exact regStep_ok ht hout (regRun_ok ht hout m) m
theorem regionsL_good {n : Nat} {rows : List (List Bool)} {living : List Nat} (h : Lv n rows living) : (∀ r ∈ regionsL rows living, GoodReg r) ∧ Alter true (regionsL rows living) := by
 have hok := regRun_ok (inn := sortB rows (inL rows living living)) h.t (out := outL rows living living) (fun i hi => h.lt i (mem_outL.1 hi).1) ((sortB rows (inL rows living living)).length + 1)
 unfold regionsL
 generalize regRun rows _ _ _ = c at hok
 unfold regEnd
 by_cases hr : c.2 = []
 · rw [if_pos hr]; exact ⟨hok.good, hok.alter⟩
 · rw [if_neg hr]
   refine ⟨fun r hr' => ?_, ?_⟩
   · rcases List.mem_append.1 hr' with h | h
     · exact hok.good r h
     · obtain rfl := List.mem_singleton.1 h; exact .inl ⟨rfl, hr, rfl⟩
   · rw [alter_append]
     refine ⟨hok.alter, .inl ?_, trivial⟩
     cases hl : c.1.getLast? with
     | none => rfl
     | some r => simp [hok.last r hl]
end Go.Proofs.Lg

namespace Go.Proofs.Lg
open Go Go.RowKit Go.Shelf
def ownB (B : Nat) (W : World) (k : Nat) : Prop := k = B ∨ ∃ (v : Value) (t : TypeId) (f : Nat × Nat), W.heap[B]? = some (.cells #[v] t f) ∧ v.ownBlock = some k
def PlainC : Obj → Prop
 | .cells .. => True
 | .map _ _ => True
 | _ => False
structure KeepsR (n₀ B : Nat) (W W' : World) : Prop where
 os : W'.os = W.os
 tape : W'.tape = W.tape
 output : W'.output = W.output
 size : W.heap.size ≤ W'.heap.size
 old : ∀ k, k < n₀ → ¬ ownB B W k → W'.heap[k]? = W.heap[k]?
 block : ∀ (k : Nat) (o : Obj), W.heap[k]? = some o → PlainC o → ¬ ownB B W k → W'.heap[k]? = some o
 own : ∀ k, ownB B W' k → ownB B W k ∨ (W.heap.size ≤ k ∧ n₀ ≤ k)
theorem ownB_same {B k : Nat} {W W' : World} (h : W'.heap[B]? = W.heap[B]?) : ownB B W' k ↔ ownB B W k := by unfold ownB; rw [h]
theorem ownB_nil {B k : Nat} {W : World} {t : TypeId} {f : Nat × Nat} (h : W.heap[B]? = some (.cells #[.slice none 0 0] t f)) (hk : ownB B W k) : k = B := by
 rcases hk with rfl | ⟨v, t', f', h', hv⟩
 · rfl
 · rw [h] at h'
   injection h' with h'
   injection h' with h1 h2 h3
   have : v = .slice none 0 0 := by
     have := congrArg (fun (a : Array Value) => a[0]?) h1
     simpa using this.symm
   subst this
   cases hv
theorem KeepsR.refl (n₀ B : Nat) (W : World) : KeepsR n₀ B W W := ⟨rfl, rfl, rfl, Nat.le_refl _, fun _ _ _ => rfl, fun _ _ h _ _ => h, fun _ h => .inl h⟩
theorem KeepsR.trans {n₀ B : Nat} {A C D : World} (h : KeepsR n₀ B A C) (k : KeepsR n₀ B C D) : KeepsR n₀ B A D := by
 refine ⟨k.os.trans h.os, k.tape.trans h.tape, k.output.trans h.output, Nat.le_trans h.size k.size, fun j hj ho => ?_, fun j o hj hp ho => ?_, fun j hj => ?_⟩
 · refine (k.old j hj fun hc => ?_).trans (h.old j hj ho)
   rcases h.own j hc with h1 | h1
   · exact ho h1
   · omega
 · refine k.block j o (h.block j o hj hp ho) hp fun hc => ?_
   rcases h.own j hc with h1 | h1
   · exact ho h1
   · have := (Array.getElem?_eq_some_iff.1 hj).1; omega
 · rcases k.own j hj with h1 | h1
   · exact h.own j h1
   · have := h.size; exact .inr ⟨by omega, h1.2⟩
theorem KeepsR.of_below {n₀ B : Nat} {A C : World} (hn : n₀ ≤ A.heap.size) (hB : B < A.heap.size) (h : Below A.heap.size A C) : KeepsR n₀ B A C :=
 ⟨h.os, h.tape, h.output, h.size, fun k hk _ => h.block k (Nat.lt_of_lt_of_le hk hn), fun k _ hk _ _ => (h.block k (Array.getElem?_eq_some_iff.1 hk).1).trans hk,
   fun _ hk => .inl ((ownB_same (h.block B hB)).1 hk)⟩
theorem KeepsR.grown {n₀ B : Nat} {A C C' : World} {row : Option Nat} (h : KeepsR n₀ B A C) (g : C.grownBy C' row) (hr : ∀ r, row = some r → A.heap.size ≤ r) (hn : n₀ ≤ A.heap.size) (hB : B < A.heap.size) : KeepsR n₀ B A C' := by
 have hs := h.size
 refine ⟨g.os.trans h.os, g.tape.trans h.tape, g.output.trans h.output, Nat.le_trans h.size g.size, fun k hk ho => ?_, fun k o hk hp ho => ?_, fun k hk => ?_⟩
 · exact (g.block k (by omega) fun e => by have := hr k e.symm; omega).trans (h.old k hk ho)
 · have hkl := (Array.getElem?_eq_some_iff.1 hk).1
   exact (g.block k (by omega) fun e => by have := hr k e.symm; omega).trans (h.block k o hk hp ho)
 · exact h.own k ((ownB_same (g.block B (by omega) fun e => by have := hr B e.symm; omega)).1 hk)
theorem KeepsR.putObj {n₀ B : Nat} {A : World} {l : Nat} {o o' : Obj} (hl : n₀ ≤ l) (hB : B ≠ l) (h : A.heap[l]? = some o) (h1 : o.isCells = false) (h2 : o.isWalk = false) : KeepsR n₀ B A (A.putObj l o') := by
 have g := grownBy_putObj' A l o'
 have hlt := (Array.getElem?_eq_some_iff.1 h).1
 refine ⟨g.os, g.tape, g.output, g.size, fun k hk _ => World.putObj_heap_other (by omega), fun k o1 hk hp _ => ?_, fun k hk => .inl ((ownB_same (World.putObj_heap_other hB)).1 hk)⟩
 by_cases hkl : k = l
 · subst hkl
   rw [h] at hk
   cases hk
   cases o <;> simp_all [PlainC, Obj.isCells, Obj.isWalk]
 · exact (World.putObj_heap_other hkl).trans hk
theorem KeepsR.appended {n₀ B : Nat} {W w1 : World} {t : TypeId} {v v' : Value} (hv : Boxed W B t v) (hn : n₀ ≤ W.heap.size) (hne : some B ≠ v.ownBlock) (hg : W.grownBy w1 v.ownBlock) (hat : v'.ownBlock = v.ownBlock ∨ ∀ g, v'.ownBlock = some g → W.heap.size ≤ g) :
   KeepsR n₀ B W (w1.setCell ⟨B, 0, none⟩ v') := by
 have hown : ∀ k, v.ownBlock = some k → ownB B W k := fun k e => .inr ⟨v, t, _, hv, e⟩
 have hg2 := grownBy_setCell' w1 B v'
 have hb1 : Boxed w1 B t v := hv.kept hg hne
 have hb2 : Boxed (w1.setCell ⟨B, 0, none⟩ v') B t v' := hb1.set v'
 have hkeep : ∀ k, k < W.heap.size → ¬ ownB B W k → (w1.setCell ⟨B, 0, none⟩ v').heap[k]? = W.heap[k]? := fun k hk ho =>
   (Below.heap_setCell _ _ _ _ (fun e => ho (.inl e))).trans (hg.block k hk fun e => ho (hown k e.symm))
 refine ⟨hg2.os.trans hg.os, hg2.tape.trans hg.tape, hg2.output.trans hg.output, Nat.le_trans hg.size hg2.size, fun k hk ho => hkeep k (by omega) ho, fun k o hk _ ho => (hkeep k (Array.getElem?_eq_some_iff.1 hk).1 ho).trans hk, fun k hk => ?_⟩
 rcases hk with rfl | ⟨u, t', f', h', hu⟩
 · exact .inl (.inl rfl)
 · rw [show (w1.setCell ⟨B, 0, none⟩ v').heap[B]? = _ from hb2] at h'
   injection h' with h'
   injection h' with e1 _ _
   have : u = v' := by
     have := congrArg (fun (a : Array Value) => a[0]?) e1
     simpa using this.symm
   subst this
   rcases hat with e | e
   · exact .inl (hown k (by rw [← e]; exact hu))
   · have := e k hu; exact .inr ⟨this, by omega⟩
theorem ownsRow_keepsR {n₀ B : Nat} {W W' : World} {base e size n : Nat} {v : Value} {xs : List Value} (h : W.ownsRow base e size v n xs) (hk : KeepsR n₀ B W W') (ho : ∀ k, ownB B W k → k < base) : W'.ownsRow base e size v n xs := by
 refine ⟨h.1, ?_⟩
 rcases h.2 with h2 | ⟨g, cap, cur, hv, hb, hg, h3⟩
 · exact .inl h2
 · exact .inr ⟨g, cap, cur, hv, hb, hk.block g _ hg trivial (fun hc => by have := ho g hc; omega), h3⟩
theorem KeepsR.cell {n₀ B : Nat} {W W' : World} (hk : KeepsR n₀ B W W') {p : Addr} {u : Value} (hp : p.block < n₀) (ho : ¬ ownB B W p.block) (hc : W.cell? p = some u) : W'.cell? p = some u :=
 (World.cell?_of_block (w := W) (hk.old _ hp ho)).trans hc
def Small (r : Reg) : Prop := r.sides.length ≤ 2000000 ∧ r.lines.length + r.sides.flatten.length ≤ 2000000
def RegOk (W : World) (v : Value) (r : Reg) : Prop := RegAt W v r ∧ Small r
theorem small_settled {l : List Nat} (h : l.length ≤ 2000000) : Small ⟨false, l, []⟩ := ⟨by simp, by simpa using h⟩
theorem arrL_len (rows : List (List Bool)) (l : List Nat) : (arrL rows l).length = l.length := by
 unfold arrL; rw [arrN_length rows _ _ rfl, sortI_length]
theorem classesS_flat (rows : List (List Bool)) (l : List Nat) : ∀ (t : List Nat) (c : List (List Nat) × List Nat), (∀ j ∈ t, j ∈ l) → c.1.flatten.length = c.2.length → (t.foldl (cstep rows l) c).1.flatten.length = (t.foldl (cstep rows l) c).2.length
 | [], _, _, h => h
 | j :: t, c, ht, h => by
   rw [List.foldl_cons]
   refine classesS_flat rows l t _ (fun x hx => ht x (List.mem_cons_of_mem _ hx)) ?_
   unfold cstep
   by_cases hc : c.2.contains j = true
   · rw [if_pos hc]; exact h
   · rw [if_neg hc]
     have hv := (visit_ok rows l l.length c.2 j (ht j List.mem_cons_self) (by simpa using hc)).len
     rw [List.flatten_append, List.length_append, List.flatten_singleton, arrL_len, h]
     dsimp only
     omega
theorem small_contested (rows : List (List Bool)) {g : List Nat} (h : g.length ≤ 2000000) : Small ⟨true, [], classesL rows g⟩ := by
 have h1 := classesS_ok rows g g ([], []) (fun _ h => h) (by have := unseen_le g []; simpa using this) (Nat.le_refl _)
 have h2 := classesS_flat rows g g ([], []) (fun _ h => h) rfl
 unfold Small classesL classesS
 simp only [List.length_nil, Nat.zero_add]
 omega
end Go.Proofs.Lg

namespace Go.Proofs.Lg
open Go
end Go.Proofs.Lg

namespace Go.Proofs.Lg
inductive PathB (E : Nat → Nat → Prop) (k : Nat) (i : Nat) : Nat → Prop
 | edge {j : Nat} : E i j → PathB E k i j
 | step {m j : Nat} : PathB E k i m → m < k → E m j → PathB E k i j
theorem PathB.mono {E : Nat → Nat → Prop} {k k' i j : Nat} (h : PathB E k i j) (hk : k ≤ k') : PathB E k' i j := by
 induction h with
 | edge h => exact .edge h
 | step _ h2 h3 ih => exact .step ih (by omega) h3
theorem PathB.trans {E : Nat → Nat → Prop} {k i m j : Nat} (h : PathB E k i m) (hm : m < k) (h2 : PathB E k m j) : PathB E k i j := by
 induction h2 with
 | edge h3 => exact .step h hm h3
 | step _ h4 h5 ih => exact .step ih h4 h5
theorem PathB.split {E : Nat → Nat → Prop} {k i j : Nat} (h : PathB E (k + 1) i j) : PathB E k i j ∨ (PathB E k i k ∧ PathB E k k j) := by
 induction h with
 | edge h => exact .inl (.edge h)
 | step h1 h2 h3 ih =>
   rename_i m j
   by_cases hm : m = k
   · subst hm
     rcases ih with h | ⟨h, _⟩
     · exact .inr ⟨h, .edge h3⟩
     · exact .inr ⟨h, .edge h3⟩
   · rcases ih with h | ⟨h, h'⟩
     · exact .inl (.step h (by omega) h3)
     · exact .inr ⟨h, .step h' (by omega) h3⟩
def putR (rows : List (List Bool)) (i j : Nat) (b : Bool) : List (List Bool) := rows.set i ((rows.getD i []).set j b)
theorem sq_putR {n : Nat} {rows : List (List Bool)} (hq : Sq n rows) {i j : Nat} (hi : i < n) (b : Bool) : Sq n (putR rows i j b) := by
 have hil : i < rows.length := by rw [hq.1]; exact hi
 refine ⟨by unfold putR; rw [List.length_set]; exact hq.1, fun r hr => ?_⟩
 unfold putR at hr
 rcases List.mem_or_eq_of_mem_set hr with h | h
 · exact hq.2 r h
 · rw [h, List.length_set, List.getD_eq_getElem?_getD, List.getElem?_eq_getElem hil]; exact hq.2 _ (List.getElem_mem _)
end Go.Proofs.Lg

namespace Go.Proofs.Lg
open Go Go.Ab Go.Bb Go.Proofs.Lh
def brow (r : List Bool) : List D := [.sl 1 (r.map fun b => [.sc (.bool b)])]
def dRows (rows : List (List Bool)) : D := .sl 1 (rows.map brow)
end Go.Proofs.Lg

namespace Go.Proofs.Lg
structure SideInv (rows : List (List Bool)) (gap : List Nat) (x : Nat) (n : Nat) (inn out : List Nat) : Prop where
 nodup : inn.Nodup
 left : out = gap.filter fun y => decide (y ∉ inn)
 mem : ∀ y ∈ inn, y ∈ gap
 hangs : ∀ y ∈ inn, Hangs rows gap x y
 done : ∀ (k : Nat) (y z : Nat), k < n → inn[k]? = some y → z ∈ out → adj rows y z = false
 self : x ∈ inn
 le : n ≤ inn.length
theorem SideInv.step {rows : List (List Bool)} {gap : List Nat} {x n y : Nat} {inn out : List Nat} (h : SideInv rows gap x n inn out) (hg : gap.Nodup) (hy : inn[n]? = some y) :
   SideInv rows gap x (n + 1) (inn ++ out.filter (adj rows y)) (out.filter fun z => !adj rows y z) := by
 have hym : y ∈ inn := List.mem_of_getElem? hy
 have hnl := (List.getElem?_eq_some_iff.1 hy).1
 have ho : ∀ z, z ∈ out ↔ z ∈ gap ∧ z ∉ inn := fun z => by rw [h.left]; simp
 have hon : out.Nodup := by rw [h.left]; exact hg.filter _
 refine ⟨?_, ?_, fun z hz => ?_, fun z hz => ?_, fun k u z hk hu hz => ?_, List.mem_append_left _ h.self, by rw [List.length_append]; omega⟩
 · rw [List.nodup_append]
   refine ⟨h.nodup, hon.filter _, fun a ha b hb e => ?_⟩
   subst e
   exact ((ho a).1 (List.mem_filter.1 hb).1).2 ha
 · rw [h.left, List.filter_filter]
   refine List.filter_congr fun z hz => ?_
   rw [Bool.eq_iff_iff]
   simp only [Bool.and_eq_true, Bool.not_eq_true', decide_eq_true_eq, List.mem_append, List.mem_filter, not_or, not_and, Bool.not_eq_true]
   constructor
   · rintro ⟨h1, h2⟩; exact ⟨h2, fun _ => h1⟩
   · rintro ⟨h1, h2⟩; exact ⟨h2 ⟨hz, h1⟩, h1⟩
 · rcases List.mem_append.1 hz with hz | hz
   · exact h.mem z hz
   · exact ((ho z).1 (List.mem_filter.1 hz).1).1
 · rcases List.mem_append.1 hz with hz | hz
   · exact h.hangs z hz
   · obtain ⟨h1, h2⟩ := List.mem_filter.1 hz
     exact (h.hangs y hym).step ((ho z).1 h1).1 h2
 · obtain ⟨h1, h2⟩ := List.mem_filter.1 hz
   by_cases hkn : k = n
   · subst hkn
     rw [List.getElem?_append_left hnl, hy] at hu
     obtain rfl := Option.some.inj hu
     simpa using h2
   · rw [List.getElem?_append_left (by omega)] at hu
     exact h.done k u z (by omega) hu h1
end Go.Proofs.Lg

namespace Go.Proofs.Lg
open Go Go.Ab Go.Bb Go.Proofs.Lh
def vrow (v : Vtx) : List D := v.cells.map .sc
def dLines (ls : List Vtx) : D := .sl 35 (ls.map vrow)
def erow (e : Int × Int) : List D := [.sc (.int .i64 e.1), .sc (.int .i64 e.2)]
def dEdges (es : List (Int × Int)) : D := .sl 2 (es.map erow)
def dGraph (g : Gr) : D := .agg [dLines g.lines, dEdges g.edges]
end Go.Proofs.Lg

namespace Go.Proofs.Lg
open Go Go.Ab Go.Bb Go.Proofs.Lh
end Go.Proofs.Lg

namespace Go.Proofs.Lg
open Go Go.Ab Go.Bb Go.Proofs.Lh
end Go.Proofs.Lg

namespace Go.Proofs.Lg
open Go Go.Ab Go.Bb Go.Proofs.Lh
end Go.Proofs.Lg

namespace Go.Proofs.Lg
open Go Go.Ab Go.Bb Go.Proofs.Lh
end Go.Proofs.Lg

namespace Go.Proofs.Lg
open Go Go.Ab Go.Bb Go.Proofs.Lh
def srow (s : List Nat) : List D := [dNats s]
def dReg (r : Reg) : List D := [.sc (.bool r.conflict), dNats r.lines, .sl 1 (r.sides.map srow)]
end Go.Proofs.Lg
