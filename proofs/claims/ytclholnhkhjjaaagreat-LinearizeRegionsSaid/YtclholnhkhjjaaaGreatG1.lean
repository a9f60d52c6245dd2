/-
  Part G1 of this claim's proof. Joined by merge.py from the texts of wip/tpl.
-/
import Derived.Maps.OwnIn
import Derived.Maps.OwnRows
import Derived.Test.YtclholnhkhjjaaaGreatT2
set_option linter.unusedVariables false
set_option linter.unusedSimpArgs false
set_option linter.unnecessarySimpa false
namespace Go.Proofs.Lg
open Go Go.RowKit Go.Shelf Go.Maps

/-- What a group of lines reads as. -/
def grpD (l : List Nat) : DataW Unit := if l = [] then .nil else .slice (ChangeShapes.lits .i64 (nats l)) []

theorem lits_inj {xs ys : List Int} (h : (ChangeShapes.lits .i64 xs : List (DataW Unit)) = ChangeShapes.lits .i64 ys) : xs = ys := by
  unfold ChangeShapes.lits at h
  exact (List.map_inj_right (fun a b hab => by simpa using hab)).1 h

theorem nats_nil {l : List Nat} (h : nats l = []) : l = [] := by
  cases l with
  | nil => rfl
  | cons x l => simp [nats] at h

theorem grp_zs {w : World} {base : Nat} {e : TypeId} {v : Value} {zs : List Int} {l : List Nat} (h : w.ownsInts base e .i64 v zs) (hd : (rowDatum .i64 v zs : DataW Unit) = grpD l) : zs = nats l := by
  rcases h.datum (H := Unit) with ⟨h1, rfl⟩ | h1
  · rw [h1] at hd
    unfold grpD at hd
    split at hd
    · rename_i hl; rw [hl]; rfl
    · cases hd
  · rw [h1] at hd
    unfold grpD at hd
    split at hd
    · cases hd
    · injection hd with h2 _
      exact lits_inj h2

theorem grp_datum {w : World} {base : Nat} {e : TypeId} {v : Value} {l : List Nat} (h : w.ownsInts base e .i64 v (nats l)) (hl : l ≠ []) : (rowDatum .i64 v (nats l) : DataW Unit) = grpD l := by
  rw [h.datum_pos (fun e => hl (nats_nil e))]
  unfold grpD
  rw [if_neg hl]

/-- The look-up in a world that keeps what is no row of regions. -/
theorem groups_look {w W' : World} {k e E t : TypeId} {base b n : Nat} {D : DataW Unit} {key : Value} {kl : Lit} (h : w.ownsGroups Tryz.prog k base e .i64 b n D) {n₀ B : Nat} (hk : KeepsR n₀ B w W') (ho : ∀ k, ownB B w k → k < base ∧ k ≠ b)
    (K : Keyed Tryz.prog k) (ht : Tryz.prog.underlying t = some (.map k E)) (hz : (zeroValue E).run Tryz.prog W' = .ok (.slice none 0 0) W') (hkey : keyOf Tryz.prog k key = some kl) :
    ∃ v zs, (Instr.lookup t (.map (some b)) key false).run Tryz.prog W' = .ok v W' ∧ D.atKey kl .nil = rowDatum .i64 v zs ∧ w.ownsInts base e .i64 v zs ∧ W'.ownsRow base e 1 v zs.length (ints zs) := by
  obtain ⟨es, clock, hb, F, hs, rfl, hbb, hlen, hap⟩ := h
  have hb' := hk.block b _ hb trivial (fun hc => (ho b hc).2 rfl)
  rcases Maps.fit_look false K ht hz hb' F hkey with ⟨hrun, _, hat⟩ | ⟨e0, y, hm0, h3, hrun, hR, hat, _⟩
  · exact ⟨.slice none 0 0, [], hrun, hat _, World.ownsInts_nil _ _ _ _, World.ownsRow_nil _ _ _ _⟩
  · obtain ⟨zs, hoi, rfl⟩ := rowElem_inv hR
    exact ⟨e0.val, zs, hrun, hat _, hoi, ownsRow_keepsR hoi.1 hk (fun k hc => (ho k hc).1)⟩

/-- Block b of w is the map of the gaps of the lines l by f. -/
def GapsAt (w : World) (b n : Nat) (f : Nat → Nat) (l : List Nat) : Prop :=
  ∃ D : DataW Unit, w.ownsGroups Tryz.prog 3 (b + 1) 3 .i64 b n D ∧ ∀ m : Nat, D.atKey (.int .i64 m) .nil = grpD (l.filter fun i => f i == m)

theorem GapsAt.made (w : World) (f : Nat → Nat) : GapsAt (w.alloc (.map #[] 0)) w.heap.size 0 f [] := ⟨.map [], World.ownsGroups_made w _ _ _ _, fun _ => rfl⟩

theorem GapsAt.look {w W' : World} {b n : Nat} {f : Nat → Nat} {l : List Nat} (h : GapsAt w b n f l) {n₀ B : Nat} (hk : KeepsR n₀ B w W') (ho : ∀ k, ownB B w k → k < b) {t : TypeId} (ht : Tryz.prog.underlying t = some (.map 3 29)) (m : Nat) (hm : m ≤ 1000000) :
    ∃ v, (Instr.lookup t (.map (some b)) (.int .i64 m) false).run Tryz.prog W' = .ok v W' ∧ W'.ownsRow (b + 1) 3 1 v (l.filter fun i => f i == m).length (ints (nats (l.filter fun i => f i == m))) := by
  obtain ⟨D, h1, h2⟩ := h
  have hz : (zeroValue 29).run Tryz.prog W' = .ok (.slice none 0 0) W' := by simp [go_sem]
  obtain ⟨v, zs, hrun, hat, hoi, hrow⟩ := groups_look h1 hk (fun k hc => by have := ho k hc; omega) (int_keyed under_int) ht hz (keyOf_int_mk under_int (wf_nat hm))
  rw [h2 m] at hat
  have hzs := grp_zs hoi hat.symm
  subst hzs
  rw [nats_length] at hrow
  exact ⟨v, hrun, hrow⟩
end Go.Proofs.Lg
