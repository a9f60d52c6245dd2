/-
  Part R1 of this claim's proof. Joined by merge.py from the texts of wip/tpl.
-/
import Derived.Test.YtclholnhkhjjaaaGreatK1
set_option linter.unusedVariables false
set_option linter.unusedSimpArgs false
set_option linter.unnecessarySimpa false
namespace Go.Proofs.Lg
open Go Go.RowKit Go.Shelf

/-- A block that the collecting of regions leaves alone. -/
def PlainObj : Obj → Prop
  | .cells _ t _ => t ≠ 45 ∧ t ≠ 32
  | .map _ _ => True
  | _ => False

/-- Whatever is no row of regions and no box of such a row lies as it lay. -/
structure KeepsK (W W' : World) : Prop where
  os : W'.os = W.os
  tape : W'.tape = W.tape
  output : W'.output = W.output
  size : W.heap.size ≤ W'.heap.size
  block : ∀ (k : Nat) (o : Obj), W.heap[k]? = some o → PlainObj o → W'.heap[k]? = some o

theorem KeepsK.refl (W : World) : KeepsK W W := ⟨rfl, rfl, rfl, Nat.le_refl _, fun _ _ h _ => h⟩
theorem KeepsK.trans {A B C : World} (h : KeepsK A B) (k : KeepsK B C) : KeepsK A C :=
  ⟨k.os.trans h.os, k.tape.trans h.tape, k.output.trans h.output, Nat.le_trans h.size k.size, fun j o hj ho => k.block j o (h.block j o hj ho) ho⟩
theorem KeepsK.of_below {A B : World} (h : Below A.heap.size A B) : KeepsK A B :=
  ⟨h.os, h.tape, h.output, h.size, fun j _ hj _ => (h.block j (Array.getElem?_eq_some_iff.1 hj).1).trans hj⟩
/-- A turn of a block that is none of the plain ones. -/
theorem KeepsK.of_grown {A B : World} {row : Option Nat} (h : A.grownBy B row) (hr : ∀ r o, row = some r → A.heap[r]? = some o → ¬ PlainObj o) : KeepsK A B :=
  ⟨h.os, h.tape, h.output, h.size, fun j o hj ho => (h.block j (Array.getElem?_eq_some_iff.1 hj).1 (fun e => hr j o e.symm hj ho)).trans hj⟩

theorem ownsRow_keepsK {W W' : World} {base e n : Nat} {v : Value} {xs : List Value} (h : W.ownsRow base e 1 v n xs) (hk : KeepsK W W') (he : e ≠ 45 ∧ e ≠ 32) : W'.ownsRow base e 1 v n xs := by
  refine ⟨h.1, ?_⟩
  rcases h.2 with h2 | ⟨g, cap, cur, hv, hb, hg, h3⟩
  · exact .inl h2
  · exact .inr ⟨g, cap, cur, hv, hb, hk.block g _ hg he, h3⟩

theorem SidesOwn.keepsK {W W' : World} {base : Nat} {us : List Value} {sides : List (List Nat)} (h : SidesOwn W base us sides) (hk : KeepsK W W') : SidesOwn W' base us sides :=
  ⟨h.1, fun i u r hu hr => ownsRow_keepsK (h.2 i u r hu hr) hk (by decide)⟩

/-- A region in plain words. -/
structure Reg where
  conflict : Bool
  lines : List Nat
  sides : List (List Nat)

/-- Value v is region r in world W. -/
def RegAt (W : World) (v : Value) (r : Reg) : Prop :=
  ∃ (vl vs : Value) (us : List Value), v = .agg #[.bool r.conflict, vl, vs] ∧ W.ownsRow 0 3 1 vl r.lines.length (ints (nats r.lines)) ∧ W.ownsRow 0 29 1 vs us.length us ∧ SidesOwn W 0 us r.sides

theorem RegAt.keepsK {W W' : World} {v : Value} {r : Reg} (h : RegAt W v r) (hk : KeepsK W W') : RegAt W' v r := by
  obtain ⟨vl, vs, us, hv, h1, h2, h3⟩ := h
  exact ⟨vl, vs, us, hv, ownsRow_keepsK h1 hk (by decide), ownsRow_keepsK h2 hk (by decide), h3.keepsK hk⟩
theorem RegAt.below {W W' : World} {v : Value} {r : Reg} (h : RegAt W v r) (hb : Below W.heap.size W W') : RegAt W' v r := h.keepsK (KeepsK.of_below hb)

theorem RegAt.settled {W : World} {v : Value} {base : Nat} {l : List Nat} (h : W.ownsRow base 3 1 v l.length (ints (nats l))) : RegAt W (.agg #[.bool false, v, .slice none 0 0]) ⟨false, l, []⟩ :=
  ⟨v, .slice none 0 0, [], rfl, ownsRow_base' h (Nat.zero_le _), World.ownsRow_nil _ _ _ _, rfl, fun i u r hu => by cases hu⟩
theorem RegAt.contested {W : World} {v : Value} {base : Nat} {us : List Value} {sides : List (List Nat)} (h : W.ownsRow base 29 1 v us.length us) (hs : SidesOwn W base us sides) : RegAt W (.agg #[.bool true, .slice none 0 0, v]) ⟨true, [], sides⟩ :=
  ⟨.slice none 0 0, v, us, rfl, World.ownsRow_nil _ _ _ _, ownsRow_base' h (Nat.zero_le _), hs.1, fun i u r hu hr => ownsRow_base' (hs.2 i u r hu hr) (Nat.zero_le _)⟩

/-- One round of order.regions: the regions so far and the run of settled lines. -/
def regStep (rows : List (List Bool)) (inn out : List Nat) (c : List Reg × List Nat) (n : Nat) : List Reg × List Nat :=
  let g := out.filter fun i => gapN rows inn i == n
  let c1 := if g = [] then c else ((if c.2 = [] then c.1 else c.1 ++ [⟨false, c.2, []⟩]) ++ [⟨true, [], classesL rows g⟩], [])
  match inn[n]? with
  | some i => (c1.1, c1.2 ++ [i])
  | none => c1
def regRun (rows : List (List Bool)) (inn out : List Nat) (n : Nat) : List Reg × List Nat := (List.range n).foldl (regStep rows inn out) ([], [])
theorem regRun_succ (rows : List (List Bool)) (inn out : List Nat) (m : Nat) : regRun rows inn out (m + 1) = regStep rows inn out (regRun rows inn out m) m := by
  unfold regRun
  rw [List.range_succ, List.foldl_append]
  rfl
theorem regStep_len (rows : List (List Bool)) (inn out : List Nat) (c : List Reg × List Nat) (m : Nat) : (regStep rows inn out c m).1.length ≤ c.1.length + 2 ∧ (regStep rows inn out c m).2.length ≤ c.2.length + 1 := by
  unfold regStep
  dsimp only
  generalize out.filter (fun i => gapN rows inn i == m) = g
  by_cases hg : g = [] <;> by_cases hc : c.2 = [] <;> cases inn[m]? <;> simp [hg, hc]
theorem regRun_len (rows : List (List Bool)) (inn out : List Nat) : ∀ m : Nat, (regRun rows inn out m).1.length ≤ 2 * m ∧ (regRun rows inn out m).2.length ≤ m
  | 0 => ⟨Nat.le_refl _, Nat.le_refl _⟩
  | m + 1 => by
    have h1 := regRun_len rows inn out m
    have h2 := regStep_len rows inn out (regRun rows inn out m) m
    rw [regRun_succ]
    omega
def regEnd (c : List Reg × List Nat) : List Reg := if c.2 = [] then c.1 else c.1 ++ [⟨false, c.2, []⟩]
def regionsL (rows : List (List Bool)) (living : List Nat) : List Reg :=
  regEnd (regRun rows (sortB rows (inL rows living living)) (outL rows living living) ((sortB rows (inL rows living living)).length + 1))
end Go.Proofs.Lg
