/-
  Part K3 of this claim's proof. Joined by merge.py from the texts of wip/tpl.
-/
import Derived.Test.YtclholnhkhjjaaaGreatC4
import Derived.Test.YtclholnhkhjjaaaGreatAb1
import Derived.Test.YtclholnhkhjjaaaGreatQ3
set_option linter.unusedVariables false
set_option linter.unusedSimpArgs false
set_option linter.unnecessarySimpa false
namespace Go.Proofs.Lg
open Go Go.RowKit

theorem SlN.src {w : World} {v : Value} {sz : Nat} {xs : List (List Value)} (h : SlN w v sz xs) (hsz : 0 < sz) (hl : ∀ r ∈ xs, r.length = sz) : SrcAt w v xs.length sz xs.flatten := by
  obtain ⟨a, c, rfl, h1, h2, h3⟩ := h
  have hfl := Go.Ab.flatten_len xs hl
  refine ⟨hfl, ?_⟩
  cases a with
  | none =>
    have : xs = [] := by
      cases xs with
      | nil => rfl
      | cons y ys => obtain ⟨b, off, h, _⟩ := h3 (by simp); cases h
    subst this
    exact .inl ⟨c, rfl, rfl⟩
  | some ad =>
    refine .inr ⟨ad, c, rfl, fun j u hu => ?_⟩
    obtain ⟨b, off, ha, hc⟩ := h3 (by intro e; subst e; simp at hu)
    obtain rfl := Option.some.inj ha
    have hj : j < xs.length * sz := by rw [← hfl]; exact (List.getElem?_eq_some_iff.1 hu).1
    have hq : j / sz < xs.length := Nat.div_lt_of_lt_mul (by rw [Nat.mul_comm]; exact hj)
    have hrow := Go.Ab.flatten_row xs hl (j / sz) xs[j / sz] (List.getElem?_eq_getElem hq)
    have hm : j % sz < sz := Nat.mod_lt _ hsz
    have hdm : j / sz * sz + j % sz = j := by rw [Nat.mul_comm]; exact Nat.div_add_mod j sz
    have hx : xs[j / sz][j % sz]? = some u := by
      rw [← hrow, List.getElem?_take, if_pos hm, List.getElem?_drop, hdm]; exact hu
    have := hc (j / sz) _ (List.getElem?_eq_getElem hq) (j % sz) u hx
    rw [Addr.add_mid, ← this, Nat.add_assoc, hdm]

def zVertex : Value := .agg ((List.replicate 32 (Value.int .u8 0) ++ [Value.int .i64 0, Value.string ByteArray.empty, Value.bool false]).toArray)
theorem info_Vertex : (Tryz.prog.info? 40).map (fun i => (i.zero, i.size, i.bytes)) = some (some zVertex, 35, 64) := by kernel_rfl

theorem vcells_len {x : Vtx} (h : x.ok) : x.cells.length = 35 := by simp [Vtx.cells, h.1]
theorem vcells_one {ls : List Vtx} : ∀ u ∈ (ls.map Vtx.cells).flatten, u.oneCell' = true := by
  intro u hu
  obtain ⟨r, hr, hur⟩ := List.mem_flatten.1 hu
  obtain ⟨x, _, rfl⟩ := List.mem_map.1 hr
  unfold Vtx.cells at hur
  rcases List.mem_append.1 hur with h | h
  · obtain ⟨n, _, rfl⟩ := List.mem_map.1 h; rfl
  · simp at h; rcases h with rfl | rfl | rfl <;> rfl

set_option maxHeartbeats 1000000 in
theorem CloneVertexs_any (ls : List Vtx) (v : Value) (w : World) (h : SlN w v 35 (ls.map Vtx.cells)) (hok : ∀ x ∈ ls, x.ok) (hn : ls.length ≤ 1000000) :
    Calls Tryz.prog 49 #[v] w fun e w' => ∃ v', e = .returned v' ∧ w'.ownsRow w.heap.size 40 35 v' ls.length (ls.map Vtx.cells).flatten ∧ Below w.heap.size w w' := by
  have hrl : ∀ r ∈ ls.map Vtx.cells, r.length = 35 := fun r hr => by obtain ⟨x, hx, rfl⟩ := List.mem_map.1 hr; exact vcells_len (hok x hx)
  have hsrc := h.src (by omega) hrl
  have hone := vcells_one (ls := ls)
  rw [List.length_map] at hsrc
  obtain ⟨a, c, rfl, h1, h2, h3⟩ := h
  rw [List.length_map] at *
  cases a with
  | none =>
    have hl : ls = [] := by
      cases ls with
      | nil => rfl
      | cons y ys => obtain ⟨b, off, h, _⟩ := h3 (by simp); cases h
    subst hl
    clear h3 hsrc
    have heq : ∀ w, (binOp .eql 22 (.slice none 0 c) (.slice none 0 0)).run Tryz.prog w = .ok (.bool true) w := fun w => by rw [Lib.run_eql_slice_nil (h := Tryz.underlying22)]; rfl
    go_enter Tryz.func49, Tryz.ntmps49
    go_wp2
    go_ret
    exact ⟨_, rfl, World.ownsRow_nil _ _ _ _, Below.refl _ _⟩
  | some ad =>
    have heq : ∀ w, (binOp .eql 22 (.slice (some ad) ls.length c) (.slice none 0 0)).run Tryz.prog w = .ok (.bool false) w := fun w => by rw [Lib.run_eql_slice_nil (h := Tryz.underlying22)]; rfl
    have H3 := Lib.hid h3
    have HS := Lib.hid hsrc
    have HO1 := Lib.hid hone
    have hfl : (ls.map Vtx.cells).flatten.length = ls.length * 35 := by rw [Go.Ab.flatten_len _ hrl, List.length_map]
    have HF := Lib.hid hfl
    clear h3 hsrc hone hfl hrl
    generalize (ls.map Vtx.cells).flatten = us at *
    have hown := World.ownsRow_made (e := 40) (size := 35) (base := w.heap.size) w #[] 0 (Nat.le_refl _) (by unfold maxLen; omega) rfl
    have HO := Lib.hid hown
    clear hown
    go_enter Tryz.func49, Tryz.ntmps49
    go_wp2_with (at_builtin; refine wpList_app rfl _ _ _ rfl w.heap.size 40 zVertex 35 64 Tryz.underlying22 info_Vertex rfl (by decide) _ 0 [] rfl HO.out _ ls.length us rfl (HS.out.below ((Below.refl _ _).alloc (Nat.le_refl _) _)) HO1.out (by omega) (by omega) (by simp) ?_; intro a' c' w1 hown1 hgrow1 hat1)
    go_ret
    refine ⟨_, rfl, by simpa using hown1, ?_⟩
    exact Below.grown ((Below.refl _ _).alloc (Nat.le_refl _) _) hgrow1 (by simp) (fun k hk => Nat.le_of_eq (Option.some.inj hk))
end Go.Proofs.Lg
