/-
  Part K10 of this claim's proof. Joined by merge.py from the texts of wip/tpl.
-/
import Derived.Test.YtclholnhkhjjaaaGreatK9
import Derived.Test.YtclholnhkhjjaaaGreatPA
import Derived.Shelf.SlSortCmp.NoneTotal
set_option linter.unusedVariables false
set_option linter.unusedSimpArgs false
set_option linter.unnecessarySimpa false
namespace Go.Proofs.Lg
open Go Go.RowKit Go.Shelf Go.Sort

/-- What the edge x adds by itself, and what it adds with the edge y. -/
def jx (d : Int) (x : Int × Int) : List (Int × Int) := if x.1 ≠ d ∧ x.2 ≠ d then [(mvI d x.1, mvI d x.2)] else []
def jy (d : Int) (x y : Int × Int) : List (Int × Int) := if x.2 = d ∧ y.1 = d ∧ x.1 ≠ y.2 ∧ 0 ≤ x.1 ∧ 0 ≤ y.2 then [(mvI d x.1, mvI d y.2)] else []
theorem jy_flat (d : Int) (x : Int × Int) : ∀ es : List (Int × Int), es.flatMap (jy d x) = (es.filter fun y => decide (x.2 = d ∧ y.1 = d ∧ x.1 ≠ y.2 ∧ 0 ≤ x.1 ∧ 0 ≤ y.2)).map fun y => (mvI d x.1, mvI d y.2)
  | [] => rfl
  | y :: es => by
    rw [List.flatMap_cons, jy_flat d x es]
    unfold jy
    by_cases h : x.2 = d ∧ y.1 = d ∧ x.1 ≠ y.2 ∧ 0 ≤ x.1 ∧ 0 ≤ y.2
    · rw [if_pos h, List.filter_cons_of_pos (by simpa using h)]; rfl
    · rw [if_neg h, List.filter_cons_of_neg (by simpa using h)]; rfl
theorem joinE_eq (es : List (Int × Int)) (d : Int) : joinE es d = es.flatMap fun x => jx d x ++ es.flatMap (jy d x) := by
  unfold joinE
  congr 1
  funext x
  rw [jy_flat]; rfl
theorem jx_len (d : Int) (x : Int × Int) : (jx d x).length ≤ 1 := by unfold jx; split <;> simp
theorem jy_len (d : Int) (x : Int × Int) : ∀ es : List (Int × Int), (es.flatMap (jy d x)).length ≤ es.length
  | [] => Nat.le_refl _
  | y :: es => by
    have := jy_len d x es
    rw [List.flatMap_cons, List.length_append, List.length_cons]
    have h : (jy d x y).length ≤ 1 := by unfold jy; split <;> simp
    omega
theorem jj_len (d : Int) (es : List (Int × Int)) : ∀ l : List (Int × Int), (l.flatMap fun x => jx d x ++ es.flatMap (jy d x)).length ≤ l.length * (es.length + 1)
  | [] => Nat.zero_le _
  | x :: l => by
    have h1 := jj_len d es l
    have h2 := jx_len d x
    have h3 := jy_len d x es
    rw [List.flatMap_cons, List.length_append, List.length_append, List.length_cons, Nat.add_mul]
    omega

theorem flat_takeN {α : Type} {f : α → List Value} {k : Nat} (hf : ∀ x, (f x).length = k) : ∀ (ls : List α) (d : Nat), ((ls.take d).map f).flatten = (ls.map f).flatten.take (d * k) ∧ ((ls.drop d).map f).flatten = (ls.map f).flatten.drop (d * k)
  | [], d => by simp
  | x :: ls, 0 => by simp
  | x :: ls, d + 1 => by
    obtain ⟨h1, h2⟩ := flat_takeN hf ls d
    have hx := hf x
    rw [List.take_succ_cons, List.drop_succ_cons, List.map_cons, List.map_cons, List.flatten_cons, List.flatten_cons, h1, h2]
    rw [show (d + 1) * k = (f x).length + d * k by rw [hx, Nat.add_mul]; omega, List.take_length_add_append, List.drop_length_add_append]
    exact ⟨rfl, rfl⟩

theorem SortEdges_own (l : List (Int × Int)) (v : Value) (base : Nat) (w : World) (hl : ∀ e ∈ l, SmE e) (hn : l.length ≤ 1000000) (hown : w.ownsRow base 74 2 v l.length (l.map edgeCells).flatten) :
    Calls Tryz.prog 51 #[v, .func (.func 52) #[] #[]] w fun e w' =>
      e = .returned (.tuple #[]) ∧ w'.ownsRow base 74 2 v l.length ((l.mergeSort leE).map edgeCells).flatten ∧ w.grownBy w' v.ownBlock := by
  rcases hown.2 with ⟨rfl, h⟩ | ⟨g, c, cur, rfl, _⟩
  · have hnil : l = [] := List.eq_nil_of_length_eq_zero h
    subst hnil
    refine Calls.mono (show Calls Tryz.prog 51 _ _ _ from AnyF.slices_SortFunc_none Tryz.laysSortEdge none 0 (.func (.func 52) #[] #[]) w) ?_
    rintro e w' ⟨he, rfl⟩
    exact ⟨he, by simpa using hown, ⟨rfl, rfl, rfl, Nat.le_refl _, fun _ _ _ => rfl⟩⟩
  · exact SortEdges_any l g c base w hl hn hown

set_option maxHeartbeats 1000000 in
theorem CompactEdges_nil (w : World) : Calls Tryz.prog 53 #[.slice none 0 0] w fun e w' => e = .returned (.slice none 0 0) ∧ w' = w := by
  go_enter Tryz.func53, Tryz.ntmps53
  go_wp2
  go_ret
  exact ⟨rfl, rfl⟩

theorem CompactEdges_own (l : List (Int × Int)) (v : Value) (base : Nat) (w : World) (hn : l.length ≤ 1000000) (hown : w.ownsRow base 74 2 v l.length (l.map edgeCells).flatten) :
    Calls Tryz.prog 53 #[v] w fun e w' => ∃ v', e = .returned v' ∧ w'.ownsRow base 74 2 v' (compE l).length ((compE l).map edgeCells).flatten ∧ w.grownBy w' v.ownBlock := by
  rcases hown.2 with ⟨rfl, h⟩ | ⟨g, c, cur, rfl, _⟩
  · have hnil : l = [] := List.eq_nil_of_length_eq_zero h
    subst hnil
    refine (CompactEdges_nil w).mono ?_
    rintro e w' ⟨rfl, rfl⟩
    exact ⟨_, rfl, by simpa [compE] using hown, ⟨rfl, rfl, rfl, Nat.le_refl _, fun _ _ _ => rfl⟩⟩
  · refine (CompactEdges_any l g c base w hn hown).mono ?_
    rintro e w' ⟨rfl, h1, h2⟩
    exact ⟨_, rfl, h1, h2⟩

theorem sm_join {es : List (Int × Int)} (h : ∀ e ∈ es, SmE e) (d : Nat) : ∀ z ∈ joinE es d, SmE z := by
  have hm : ∀ i : Int, -1 ≤ i ∧ i ≤ 1000000 → -1 ≤ mvI d i ∧ mvI d i ≤ 1000000 := fun i hi => by unfold mvI; split <;> omega
  intro z hz
  obtain ⟨x, hx, h1⟩ := mem_joinE.1 hz
  have hx' := h x hx
  rcases h1 with ⟨_, _, rfl⟩ | ⟨y, hy, _, _, _, _, _, rfl⟩
  · exact ⟨hm _ hx'.1, hm _ hx'.2⟩
  · exact ⟨hm _ hx'.1, hm _ (h y hy).2⟩

theorem compE_len : ∀ l : List (Int × Int), (compE l).length ≤ l.length
  | [] => Nat.le_refl _
  | [_] => Nat.le_refl _
  | x :: y :: l => by
    have := compE_len (y :: l)
    unfold compE
    split <;> simp only [List.length_cons] at * <;> omega

theorem join_len (es : List (Int × Int)) (d : Int) (h : es.length ≤ 60) : (joinE es d).length ≤ 3660 := by
  rw [joinE_eq]
  have h1 := jj_len d es es
  have h2 : es.length * (es.length + 1) ≤ 60 * 61 := Nat.mul_le_mul h (by omega)
  omega
end Go.Proofs.Lg
