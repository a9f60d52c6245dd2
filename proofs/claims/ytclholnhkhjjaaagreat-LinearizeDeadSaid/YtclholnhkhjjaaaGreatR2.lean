/-
  Part R2 of this claim's proof. Joined by merge.py from the texts of wip/tpl.
-/
import Derived.RangeFuncNested
import Derived.RangeFuncBox
import Derived.RangeFuncBound
import Derived.RangeFuncLeaves
import Derived.Test.YtclholnhkhjjaaaGreatR1
set_option linter.unusedVariables false
set_option linter.unusedSimpArgs false
set_option linter.unnecessarySimpa false
namespace Go.Proofs.Lg
open Go Go.RowKit Go.Shelf

/-- The consumer's blocks: its box, and the row that the box leads to. -/
def ownB (B : Nat) (W : World) (k : Nat) : Prop := k = B ∨ ∃ (v : Value) (t : TypeId) (f : Nat × Nat), W.heap[B]? = some (.cells #[v] t f) ∧ v.ownBlock = some k

def PlainC : Obj → Prop
  | .cells .. => True
  | .map _ _ => True
  | _ => False

structure KeepsR (n₀ B : Nat) (W W' : World) : Prop where
  os : W'.os = W.os
  tape : W'.tape = W.tape
  output : W'.output = W.output
  size : W.heap.size ≤ W'.heap.size
  old : ∀ k, k < n₀ → ¬ ownB B W k → W'.heap[k]? = W.heap[k]?
  block : ∀ (k : Nat) (o : Obj), W.heap[k]? = some o → PlainC o → ¬ ownB B W k → W'.heap[k]? = some o
  own : ∀ k, ownB B W' k → ownB B W k ∨ (W.heap.size ≤ k ∧ n₀ ≤ k)

theorem ownB_same {B k : Nat} {W W' : World} (h : W'.heap[B]? = W.heap[B]?) : ownB B W' k ↔ ownB B W k := by unfold ownB; rw [h]

theorem ownB_nil {B k : Nat} {W : World} {t : TypeId} {f : Nat × Nat} (h : W.heap[B]? = some (.cells #[.slice none 0 0] t f)) (hk : ownB B W k) : k = B := by
  rcases hk with rfl | ⟨v, t', f', h', hv⟩
  · rfl
  · rw [h] at h'
    injection h' with h'
    injection h' with h1 h2 h3
    have : v = .slice none 0 0 := by
      have := congrArg (fun (a : Array Value) => a[0]?) h1
      simpa using this.symm
    subst this
    cases hv

theorem KeepsR.refl (n₀ B : Nat) (W : World) : KeepsR n₀ B W W := ⟨rfl, rfl, rfl, Nat.le_refl _, fun _ _ _ => rfl, fun _ _ h _ _ => h, fun _ h => .inl h⟩

theorem KeepsR.trans {n₀ B : Nat} {A C D : World} (h : KeepsR n₀ B A C) (k : KeepsR n₀ B C D) : KeepsR n₀ B A D := by
  refine ⟨k.os.trans h.os, k.tape.trans h.tape, k.output.trans h.output, Nat.le_trans h.size k.size, fun j hj ho => ?_, fun j o hj hp ho => ?_, fun j hj => ?_⟩
  · refine (k.old j hj fun hc => ?_).trans (h.old j hj ho)
    rcases h.own j hc with h1 | h1
    · exact ho h1
    · omega
  · refine k.block j o (h.block j o hj hp ho) hp fun hc => ?_
    rcases h.own j hc with h1 | h1
    · exact ho h1
    · have := (Array.getElem?_eq_some_iff.1 hj).1; omega
  · rcases k.own j hj with h1 | h1
    · exact h.own j h1
    · have := h.size; exact .inr ⟨by omega, h1.2⟩

theorem KeepsR.of_below {n₀ B : Nat} {A C : World} (hn : n₀ ≤ A.heap.size) (hB : B < A.heap.size) (h : Below A.heap.size A C) : KeepsR n₀ B A C :=
  ⟨h.os, h.tape, h.output, h.size, fun k hk _ => h.block k (Nat.lt_of_lt_of_le hk hn), fun k _ hk _ _ => (h.block k (Array.getElem?_eq_some_iff.1 hk).1).trans hk,
    fun _ hk => .inl ((ownB_same (h.block B hB)).1 hk)⟩

theorem KeepsR.grown {n₀ B : Nat} {A C C' : World} {row : Option Nat} (h : KeepsR n₀ B A C) (g : C.grownBy C' row) (hr : ∀ r, row = some r → A.heap.size ≤ r) (hn : n₀ ≤ A.heap.size) (hB : B < A.heap.size) : KeepsR n₀ B A C' := by
  have hs := h.size
  refine ⟨g.os.trans h.os, g.tape.trans h.tape, g.output.trans h.output, Nat.le_trans h.size g.size, fun k hk ho => ?_, fun k o hk hp ho => ?_, fun k hk => ?_⟩
  · exact (g.block k (by omega) fun e => by have := hr k e.symm; omega).trans (h.old k hk ho)
  · have hkl := (Array.getElem?_eq_some_iff.1 hk).1
    exact (g.block k (by omega) fun e => by have := hr k e.symm; omega).trans (h.block k o hk hp ho)
  · exact h.own k ((ownB_same (g.block B (by omega) fun e => by have := hr B e.symm; omega)).1 hk)

theorem KeepsR.putObj {n₀ B : Nat} {A : World} {l : Nat} {o o' : Obj} (hl : n₀ ≤ l) (hB : B ≠ l) (h : A.heap[l]? = some o) (h1 : o.isCells = false) (h2 : o.isWalk = false) : KeepsR n₀ B A (A.putObj l o') := by
  have g := grownBy_putObj' A l o'
  have hlt := (Array.getElem?_eq_some_iff.1 h).1
  refine ⟨g.os, g.tape, g.output, g.size, fun k hk _ => World.putObj_heap_other (by omega), fun k o1 hk hp _ => ?_, fun k hk => .inl ((ownB_same (World.putObj_heap_other hB)).1 hk)⟩
  by_cases hkl : k = l
  · subst hkl
    rw [h] at hk
    cases hk
    cases o <;> simp_all [PlainC, Obj.isCells, Obj.isWalk]
  · exact (World.putObj_heap_other hkl).trans hk

/-- The consumer appends one element to its row and lays the row into its box. -/
theorem KeepsR.appended {n₀ B : Nat} {W w1 : World} {t : TypeId} {v v' : Value} (hv : Boxed W B t v) (hn : n₀ ≤ W.heap.size) (hne : some B ≠ v.ownBlock) (hg : W.grownBy w1 v.ownBlock) (hat : v'.ownBlock = v.ownBlock ∨ ∀ g, v'.ownBlock = some g → W.heap.size ≤ g) :
    KeepsR n₀ B W (w1.setCell ⟨B, 0, none⟩ v') := by
  have hown : ∀ k, v.ownBlock = some k → ownB B W k := fun k e => .inr ⟨v, t, _, hv, e⟩
  have hg2 := grownBy_setCell' w1 B v'
  have hb1 : Boxed w1 B t v := hv.kept hg hne
  have hb2 : Boxed (w1.setCell ⟨B, 0, none⟩ v') B t v' := hb1.set v'
  have hkeep : ∀ k, k < W.heap.size → ¬ ownB B W k → (w1.setCell ⟨B, 0, none⟩ v').heap[k]? = W.heap[k]? := fun k hk ho =>
    (Below.heap_setCell _ _ _ _ (fun e => ho (.inl e))).trans (hg.block k hk fun e => ho (hown k e.symm))
  refine ⟨hg2.os.trans hg.os, hg2.tape.trans hg.tape, hg2.output.trans hg.output, Nat.le_trans hg.size hg2.size, fun k hk ho => hkeep k (by omega) ho, fun k o hk _ ho => (hkeep k (Array.getElem?_eq_some_iff.1 hk).1 ho).trans hk, fun k hk => ?_⟩
  rcases hk with rfl | ⟨u, t', f', h', hu⟩
  · exact .inl (.inl rfl)
  · rw [show (w1.setCell ⟨B, 0, none⟩ v').heap[B]? = _ from hb2] at h'
    injection h' with h'
    injection h' with e1 _ _
    have : u = v' := by
      have := congrArg (fun (a : Array Value) => a[0]?) e1
      simpa using this.symm
    subst this
    rcases hat with e | e
    · exact .inl (hown k (by rw [← e]; exact hu))
    · have := e k hu; exact .inr ⟨this, by omega⟩

theorem ownsRow_keepsR {n₀ B : Nat} {W W' : World} {base e size n : Nat} {v : Value} {xs : List Value} (h : W.ownsRow base e size v n xs) (hk : KeepsR n₀ B W W') (ho : ∀ k, ownB B W k → k < base) : W'.ownsRow base e size v n xs := by
  refine ⟨h.1, ?_⟩
  rcases h.2 with h2 | ⟨g, cap, cur, hv, hb, hg, h3⟩
  · exact .inl h2
  · exact .inr ⟨g, cap, cur, hv, hb, hk.block g _ hg trivial (fun hc => by have := ho g hc; omega), h3⟩

theorem KeepsR.cell {n₀ B : Nat} {W W' : World} (hk : KeepsR n₀ B W W') {p : Addr} {u : Value} (hp : p.block < n₀) (ho : ¬ ownB B W p.block) (hc : W.cell? p = some u) : W'.cell? p = some u :=
  (World.cell?_of_block (w := W) (hk.old _ hp ho)).trans hc

/-! ### Regions of few lines -/

def Small (r : Reg) : Prop := r.sides.length ≤ 2000000 ∧ r.lines.length + r.sides.flatten.length ≤ 2000000
def RegOk (W : World) (v : Value) (r : Reg) : Prop := RegAt W v r ∧ Small r

theorem small_settled {l : List Nat} (h : l.length ≤ 2000000) : Small ⟨false, l, []⟩ := ⟨by simp, by simpa using h⟩

theorem arrL_len (rows : List (List Bool)) (l : List Nat) : (arrL rows l).length = l.length := by
  unfold arrL; rw [arrN_length rows _ _ rfl, sortI_length]

theorem classesS_flat (rows : List (List Bool)) (l : List Nat) : ∀ (t : List Nat) (c : List (List Nat) × List Nat), (∀ j ∈ t, j ∈ l) → c.1.flatten.length = c.2.length → (t.foldl (cstep rows l) c).1.flatten.length = (t.foldl (cstep rows l) c).2.length
  | [], _, _, h => h
  | j :: t, c, ht, h => by
    rw [List.foldl_cons]
    refine classesS_flat rows l t _ (fun x hx => ht x (List.mem_cons_of_mem _ hx)) ?_
    unfold cstep
    by_cases hc : c.2.contains j = true
    · rw [if_pos hc]; exact h
    · rw [if_neg hc]
      have hv := (visit_ok rows l l.length c.2 j (ht j List.mem_cons_self) (by simpa using hc)).len
      rw [List.flatten_append, List.length_append, List.flatten_singleton, arrL_len, h]
      dsimp only
      omega

theorem small_contested (rows : List (List Bool)) {g : List Nat} (h : g.length ≤ 2000000) : Small ⟨true, [], classesL rows g⟩ := by
  have h1 := classesS_ok rows g g ([], []) (fun _ h => h) (by have := unseen_le g []; simpa using this) (Nat.le_refl _)
  have h2 := classesS_flat rows g g ([], []) (fun _ h => h) rfl
  unfold Small classesL classesS
  simp only [List.length_nil, Nat.zero_add]
  omega
end Go.Proofs.Lg
