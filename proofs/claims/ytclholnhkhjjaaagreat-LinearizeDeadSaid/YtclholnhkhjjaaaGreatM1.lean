/-
  Part M1 of this claim's proof. Joined by merge.py from the texts of wip/tpl.
-/
import Derived.Maps.Own
import Derived.Maps.OwnOps
import Derived.Maps.OwnSet
import Derived.Maps.Views
import Derived.Test.YtclholnhkhjjaaaGreatV3
set_option linter.unusedVariables false
set_option linter.unusedSimpArgs false
set_option linter.unnecessarySimpa false
namespace Go.Proofs.Lg
open Go Go.RowKit Go.Shelf Go.Maps

theorem plainElem_bool_inv {H : Type} {P : Program} {e : TypeId} (he : P.underlying e = some .bool) {v : Value} {z : DataW H × List MemPlace} (h : plainElem P e v = some z) : ∃ a, v = .bool a ∧ z = (.lit (.bool a), []) := by
  unfold plainElem at h
  rw [he] at h
  cases v <;> simp at h
  subst h
  exact ⟨_, rfl, rfl⟩

/-- Block b of w is a map that holds true just at the keys of S. -/
def SeenAt (w : World) (b : Nat) (S : List Nat) : Prop :=
  ∃ D : DataW Unit, w.ownsMap Tryz.prog 3 (plainElem Tryz.prog 4) b S.length D ∧ ∀ i : Nat, D.atKey (.int .i64 i) (.lit (.bool false)) = .lit (.bool (S.contains i))

theorem SeenAt.kept {w w' : World} {b : Nat} {S : List Nat} {row : Option Nat} (h : SeenAt w b S) (hg : w.grownBy w' row) (hne : some b ≠ row) : SeenAt w' b S := by
  obtain ⟨D, h1, h2⟩ := h
  exact ⟨D, h1.kept hg hne, h2⟩
theorem SeenAt.alloc {w : World} {b : Nat} {S : List Nat} (h : SeenAt w b S) (o : Obj) : SeenAt (w.alloc o) b S := h.kept (World.grownBy_alloc w o none) (by simp)
theorem SeenAt.lt {w : World} {b : Nat} {S : List Nat} (h : SeenAt w b S) : b < w.heap.size := by obtain ⟨D, h1, _⟩ := h; exact h1.lt
theorem SeenAt.drewN {w : World} {b : Nat} {S : List Nat} (h : SeenAt w b S) (q : Nat) : SeenAt (w.drewN q) b S := h
theorem SeenAt.made (w : World) : SeenAt (w.alloc (.map #[] 0)) w.heap.size [] := ⟨.map [], World.ownsMap_made w _ _ _, fun _ => rfl⟩

theorem under_int : Tryz.prog.underlying 3 = some (.int .i64) := Tryz.underlying3
theorem under_bool : Tryz.prog.underlying 4 = some .bool := Tryz.underlying4
theorem wf_nat {i : Nat} (h : i ≤ 1000000) : (Lit.int .i64 (i : Int)).wf = true := by
  have : (Lit.int .i64 (wrap64 (i : Int))).wf = true := wrap64_wf i
  rwa [show wrap64 (i : Int) = i by unfold wrap64; omega] at this

theorem wpList_seen_look (w : World) {ops : Array Oper} {rest : List Oper} {o : Oper} {a : Act} {Q : Exit → Act → World → Prop}
    (hg : o.guard = none) (m x : Operand) (t : TypeId) (hop : o.op = Op.lookup t m x false) (ht : Tryz.prog.underlying t = some (.map 3 4)) (b : Nat) (S : List Nat) (hs : SeenAt w b S) (hm : a.eval m = .map (some b)) (i : Nat) (hi : i ≤ 1000000) (hx : a.eval x = .int .i64 i) (c0 : Bool) (hc0 : S.contains i = c0)
    (hK : wpList Tryz.prog ops Q rest (a.put o.dst (.bool c0)) w) :
    wpList Tryz.prog ops Q (o :: rest) a w := by
  refine wpList_plain hg fun K' hK' => ?_
  obtain ⟨D, h1, h2⟩ := hs
  have hz : (zeroValue 4).run Tryz.prog w = .ok (.bool false) w := by simp [go_sem]
  have hkey := keyOf_int_mk under_int (wf_nat hi)
  have h3 := h2 i
  generalize Value.int .i64 (i : Int) = key at hx hkey
  rw [hc0] at h3
  obtain ⟨v, ps, hrun, hv⟩ := h1.lookup (int_keyed under_int) ht hz (plainElem_bool under_bool false) hkey
  obtain ⟨c, rfl, hc⟩ := plainElem_bool_inv under_bool hv
  simp only [Prod.mk.injEq] at hc
  rw [hc.1] at h3
  obtain rfl : c = c0 := by simpa using h3
  unfold Oper.wp
  simp [execOp, hop, hm, hx, hrun, Result.andThen]
  exact hK' _ _ hK

theorem wpList_seen_store (w : World) {ops : Array Oper} {rest : List Oper} {o : Oper} {a : Act} {Q : Exit → Act → World → Prop}
    (hg : o.guard = none) (m x v : Operand) (t : TypeId) (hop : o.op = Op.mapUpdate t m x v) (ht : Tryz.prog.underlying t = some (.map 3 4)) (b : Nat) (S : List Nat) (hs : SeenAt w b S) (hm : a.eval m = .map (some b)) (i : Nat) (hi : i ≤ 1000000) (hx : a.eval x = .int .i64 i) (hv : a.eval v = .bool true) (hn : S.length ≤ 1000000)
    (hK : ∀ w', SeenAt w' b (i :: S) → w.grownBy w' (some b) → wpList Tryz.prog ops Q rest (a.put o.dst undef) w') :
    wpList Tryz.prog ops Q (o :: rest) a w := by
  obtain ⟨D, h1, h2⟩ := hs
  refine wpList_mapUpdate_own w hg m x v t hop 3 4 (int_keyed under_int) ht _ b _ D hm h1 (by unfold maxLen; omega) _ _ (.int .i64 i) hx hv (keyOf_int_mk under_int (wf_nat hi)) _ [] (plainElem_bool under_bool true) fun w' h3 h4 => hK w' ⟨_, h3, fun j => ?_⟩ h4
  by_cases hj : j = i
  · subst hj
    rw [atKey_put_same h1.isMap (by simp [WideAt.IsKeyLit])]
    simp
  · rw [atKey_put_other (by simp; omega), h2 j]
    simp [hj]
end Go.Proofs.Lg
