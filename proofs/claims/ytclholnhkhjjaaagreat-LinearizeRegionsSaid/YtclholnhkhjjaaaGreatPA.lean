/-
  Part PA of this claim's proof. Joined by merge.py from the texts of wip/tpl.
-/
import Derived.Test.YtclholnhkhjjaaaGreatK1
import Derived.RangeFuncNested
import Derived.RangeFuncBox
import Derived.RangeFuncBound
import Derived.RangeFuncLeaves
set_option linter.unusedVariables false
set_option linter.unusedSimpArgs false
set_option linter.unnecessarySimpa false
namespace Go.Proofs.Lg
open Go Go.RowKit Go.Shelf

/-- A block that the collecting of regions leaves alone. -/
def PlainObj : Obj → Prop
  | .cells _ t _ => t ≠ 45 ∧ t ≠ 32
  | .map _ _ => True
  | _ => False

/-- Whatever is no row of regions and no box of such a row lies as it lay. -/
structure KeepsK (W W' : World) : Prop where
  os : W'.os = W.os
  tape : W'.tape = W.tape
  output : W'.output = W.output
  size : W.heap.size ≤ W'.heap.size
  block : ∀ (k : Nat) (o : Obj), W.heap[k]? = some o → PlainObj o → W'.heap[k]? = some o

theorem KeepsK.refl (W : World) : KeepsK W W := ⟨rfl, rfl, rfl, Nat.le_refl _, fun _ _ h _ => h⟩
theorem KeepsK.trans {A B C : World} (h : KeepsK A B) (k : KeepsK B C) : KeepsK A C :=
  ⟨k.os.trans h.os, k.tape.trans h.tape, k.output.trans h.output, Nat.le_trans h.size k.size, fun j o hj ho => k.block j o (h.block j o hj ho) ho⟩
theorem KeepsK.of_below {A B : World} (h : Below A.heap.size A B) : KeepsK A B :=
  ⟨h.os, h.tape, h.output, h.size, fun j _ hj _ => (h.block j (Array.getElem?_eq_some_iff.1 hj).1).trans hj⟩
/-- A turn of a block that is none of the plain ones. -/
theorem KeepsK.of_grown {A B : World} {row : Option Nat} (h : A.grownBy B row) (hr : ∀ r o, row = some r → A.heap[r]? = some o → ¬ PlainObj o) : KeepsK A B :=
  ⟨h.os, h.tape, h.output, h.size, fun j o hj ho => (h.block j (Array.getElem?_eq_some_iff.1 hj).1 (fun e => hr j o e.symm hj ho)).trans hj⟩

theorem ownsRow_keepsK {W W' : World} {base e n : Nat} {v : Value} {xs : List Value} (h : W.ownsRow base e 1 v n xs) (hk : KeepsK W W') (he : e ≠ 45 ∧ e ≠ 32) : W'.ownsRow base e 1 v n xs := by
  refine ⟨h.1, ?_⟩
  rcases h.2 with h2 | ⟨g, cap, cur, hv, hb, hg, h3⟩
  · exact .inl h2
  · exact .inr ⟨g, cap, cur, hv, hb, hk.block g _ hg he, h3⟩

theorem SidesOwn.keepsK {W W' : World} {base : Nat} {us : List Value} {sides : List (List Nat)} (h : SidesOwn W base us sides) (hk : KeepsK W W') : SidesOwn W' base us sides :=
  ⟨h.1, fun i u r hu hr => ownsRow_keepsK (h.2 i u r hu hr) hk (by decide)⟩

/-- A region in plain words. -/
structure Reg where
  conflict : Bool
  lines : List Nat
  sides : List (List Nat)

/-- Value v is region r in world W. -/
def RegAt (W : World) (v : Value) (r : Reg) : Prop :=
  ∃ (vl vs : Value) (us : List Value), v = .agg #[.bool r.conflict, vl, vs] ∧ W.ownsRow 0 3 1 vl r.lines.length (ints (nats r.lines)) ∧ W.ownsRow 0 29 1 vs us.length us ∧ SidesOwn W 0 us r.sides

theorem RegAt.keepsK {W W' : World} {v : Value} {r : Reg} (h : RegAt W v r) (hk : KeepsK W W') : RegAt W' v r := by
  obtain ⟨vl, vs, us, hv, h1, h2, h3⟩ := h
  exact ⟨vl, vs, us, hv, ownsRow_keepsK h1 hk (by decide), ownsRow_keepsK h2 hk (by decide), h3.keepsK hk⟩
theorem RegAt.below {W W' : World} {v : Value} {r : Reg} (h : RegAt W v r) (hb : Below W.heap.size W W') : RegAt W' v r := h.keepsK (KeepsK.of_below hb)

theorem RegAt.settled {W : World} {v : Value} {base : Nat} {l : List Nat} (h : W.ownsRow base 3 1 v l.length (ints (nats l))) : RegAt W (.agg #[.bool false, v, .slice none 0 0]) ⟨false, l, []⟩ :=
  ⟨v, .slice none 0 0, [], rfl, ownsRow_base' h (Nat.zero_le _), World.ownsRow_nil _ _ _ _, rfl, fun i u r hu => by cases hu⟩
theorem RegAt.contested {W : World} {v : Value} {base : Nat} {us : List Value} {sides : List (List Nat)} (h : W.ownsRow base 29 1 v us.length us) (hs : SidesOwn W base us sides) : RegAt W (.agg #[.bool true, .slice none 0 0, v]) ⟨true, [], sides⟩ :=
  ⟨.slice none 0 0, v, us, rfl, World.ownsRow_nil _ _ _ _, ownsRow_base' h (Nat.zero_le _), hs.1, fun i u r hu hr => ownsRow_base' (hs.2 i u r hu hr) (Nat.zero_le _)⟩

/-- One round of order.regions: the regions so far and the run of settled lines. -/
def regStep (rows : List (List Bool)) (inn out : List Nat) (c : List Reg × List Nat) (n : Nat) : List Reg × List Nat :=
  let g := out.filter fun i => gapN rows inn i == n
  let c1 := if g = [] then c else ((if c.2 = [] then c.1 else c.1 ++ [⟨false, c.2, []⟩]) ++ [⟨true, [], classesL rows g⟩], [])
  match inn[n]? with
  | some i => (c1.1, c1.2 ++ [i])
  | none => c1
def regRun (rows : List (List Bool)) (inn out : List Nat) (n : Nat) : List Reg × List Nat := (List.range n).foldl (regStep rows inn out) ([], [])
theorem regRun_succ (rows : List (List Bool)) (inn out : List Nat) (m : Nat) : regRun rows inn out (m + 1) = regStep rows inn out (regRun rows inn out m) m := by
  unfold regRun
  rw [List.range_succ, List.foldl_append]
  rfl
theorem regStep_len (rows : List (List Bool)) (inn out : List Nat) (c : List Reg × List Nat) (m : Nat) : (regStep rows inn out c m).1.length ≤ c.1.length + 2 ∧ (regStep rows inn out c m).2.length ≤ c.2.length + 1 := by
  unfold regStep
  dsimp only
  generalize out.filter (fun i => gapN rows inn i == m) = g
  by_cases hg : g = [] <;> by_cases hc : c.2 = [] <;> cases inn[m]? <;> simp [hg, hc]
theorem regRun_len (rows : List (List Bool)) (inn out : List Nat) : ∀ m : Nat, (regRun rows inn out m).1.length ≤ 2 * m ∧ (regRun rows inn out m).2.length ≤ m
  | 0 => ⟨Nat.le_refl _, Nat.le_refl _⟩
  | m + 1 => by
    have h1 := regRun_len rows inn out m
    have h2 := regStep_len rows inn out (regRun rows inn out m) m
    rw [regRun_succ]
    omega
def regEnd (c : List Reg × List Nat) : List Reg := if c.2 = [] then c.1 else c.1 ++ [⟨false, c.2, []⟩]
def regionsL (rows : List (List Bool)) (living : List Nat) : List Reg :=
  regEnd (regRun rows (sortB rows (inL rows living living)) (outL rows living living) ((sortB rows (inL rows living living)).length + 1))
end Go.Proofs.Lg

namespace Go.Proofs.Lg

/-! ### What `from` reaches -/

theorem getD_set_true (out : List Bool) (k j : Nat) (hk : k < out.length) : (out.set k true).getD j false = (decide (k = j) || out.getD j false) := by
  by_cases h : k = j
  · subst h; simp [List.getD_eq_getElem?_getD, hk]
  · simp [List.getD_eq_getElem?_getD, List.getElem?_set_ne h, h]

theorem fromF_spec (next : List (List Int)) (n : Nat) (hn : next.length = n) (hv : ∀ r ∈ next, ∀ x ∈ r, 0 ≤ x ∧ x < (n : Int)) :
    ∀ (f : Nat) (todo : List Int) (out : List Bool), out.length = n → (∀ x ∈ todo, 0 ≤ x ∧ x < (n : Int)) → pot next out + todo.length < f →
      (∀ j, out.getD j false = true → ∀ x ∈ next.getD j [], out.getD x.toNat false = true ∨ x ∈ todo) →
      (∀ j, out.getD j false = true → (fromF next f todo out).getD j false = true) ∧ (∀ x ∈ todo, (fromF next f todo out).getD x.toNat false = true) ∧
      (∀ j, (fromF next f todo out).getD j false = true → ∀ x ∈ next.getD j [], (fromF next f todo out).getD x.toNat false = true) ∧
      (∀ T : Nat → Prop, (∀ x ∈ todo, T x.toNat) → (∀ j, out.getD j false = true → T j) → (∀ j, T j → ∀ x ∈ next.getD j [], T x.toNat) → ∀ j, (fromF next f todo out).getD j false = true → T j)
  | 0, todo, out, _, _, hf, _ => absurd hf (Nat.not_lt_zero _)
  | f + 1, todo, out, ho, ht, hf, hc => by
    unfold fromF
    cases hl : todo.getLast? with
    | none =>
      have : todo = [] := List.getLast?_eq_none_iff.1 hl
      subst this
      refine ⟨fun _ h => h, fun x hx => (by cases hx), fun j hj x hx => ?_, fun T _ h2 _ j hj => h2 j hj⟩
      rcases hc j hj x hx with h | h
      · exact h
      · cases h
    | some k =>
      have hne : todo ≠ [] := by intro e; subst e; simp at hl
      have hsp : todo = todo.dropLast ++ [k] := by
        have := List.dropLast_concat_getLast hne
        rw [List.getLast?_eq_some_getLast hne] at hl
        rw [Option.some.inj hl] at this
        exact this.symm
      have hlen : todo.length = todo.dropLast.length + 1 := by rw [List.length_dropLast]; have := List.length_pos_iff.2 hne; omega
      have hkm : k ∈ todo := by rw [hsp]; simp
      have hk := ht k hkm
      have hkn : k.toNat < n := by omega
      have hmem : ∀ x, x ∈ todo → x ∈ todo.dropLast ∨ x = k := by
        intro x hx
        rw [hsp] at hx
        simpa using hx
      have hsub : ∀ x, x ∈ todo.dropLast → x ∈ todo := fun x hx => List.dropLast_subset _ hx
      dsimp only
      by_cases hb : out.getD k.toNat false = true
      · rw [if_pos hb]
        obtain ⟨h1, h2, h3, h4⟩ := fromF_spec next n hn hv f todo.dropLast out ho (fun x hx => ht x (hsub x hx)) (by omega) (fun j hj x hx => by
          rcases hc j hj x hx with h | h
          · exact .inl h
          · rcases hmem x h with h | h
            · exact .inr h
            · exact .inl (by rw [h]; exact hb))
        refine ⟨h1, fun x hx => ?_, h3, fun T t1 t2 t3 => h4 T (fun x hx => t1 x (hsub x hx)) t2 t3⟩
        rcases hmem x hx with h | h
        · exact h2 x h
        · rw [h]; exact h1 _ hb
      · rw [if_neg hb]
        have hnk : next[k.toNat]? = some (next.getD k.toNat []) := by
          rw [List.getD_eq_getElem?_getD, List.getElem?_eq_getElem (by omega)]; rfl
        have hok : out[k.toNat]? = some false := by
          have h2 : k.toNat < out.length := by omega
          rw [List.getElem?_eq_getElem h2]
          rw [List.getD_eq_getElem?_getD, List.getElem?_eq_getElem h2] at hb
          simpa using hb
        have hps := pot_set next out k.toNat _ hnk hok
        have hg : ∀ j, (out.set k.toNat true).getD j false = (decide (k.toNat = j) || out.getD j false) := fun j => getD_set_true out k.toNat j (by omega)
        have hrow : ∀ x ∈ next.getD k.toNat [], 0 ≤ x ∧ x < (n : Int) := hv _ (by rw [List.getElem?_eq_some_iff] at hnk; obtain ⟨h, e⟩ := hnk; rw [← e]; exact List.getElem_mem _)
        obtain ⟨h1, h2, h3, h4⟩ := fromF_spec next n hn hv f (todo.dropLast ++ next.getD k.toNat []) (out.set k.toNat true) (by simpa using ho) (fun x hx => by
            rcases List.mem_append.1 hx with h | h
            · exact ht x (hsub x h)
            · exact hrow x h) (by rw [List.length_append]; omega) (fun j hj x hx => by
          rw [hg] at hj ⊢
          by_cases hjk : k.toNat = j
          · subst hjk; exact .inr (List.mem_append_right _ hx)
          · rcases hc j (by simpa [hjk] using hj) x hx with h | h
            · left; simp only [Bool.or_eq_true]; exact .inr h
            · rcases hmem x h with h | h
              · exact .inr (List.mem_append_left _ h)
              · left; subst h; simp)
        refine ⟨fun j hj => h1 j (by rw [hg, hj, Bool.or_true]), fun x hx => ?_, h3, fun T t1 t2 t3 => h4 T (fun x hx => ?_) (fun j hj => ?_) t3⟩
        · rcases hmem x hx with h | h
          · exact h2 x (List.mem_append_left _ h)
          · subst h; exact h1 _ (by rw [hg]; simp)
        · rcases List.mem_append.1 hx with h | h
          · exact t1 x (hsub x h)
          · exact t3 k.toNat (t1 k hkm) x h
        · rw [hg] at hj
          by_cases hjk : k.toNat = j
          · subst hjk; exact t1 k hkm
          · exact t2 j (by simpa [hjk] using hj)

theorem getD_repl (n j : Nat) : (List.replicate n false).getD j false = false := by
  rw [List.getD_eq_getElem?_getD, List.getElem?_replicate]; split <;> rfl

theorem fromRow_spec (next : List (List Int)) (n : Nat) (hn : next.length = n) (hv : ∀ r ∈ next, ∀ x ∈ r, 0 ≤ x ∧ x < (n : Int)) (i : Nat) (hi : i < n) :
    (∀ x ∈ next.getD i [], (fromRow next i).getD x.toNat false = true) ∧ (∀ j, (fromRow next i).getD j false = true → ∀ x ∈ next.getD j [], (fromRow next i).getD x.toNat false = true) ∧
    (∀ T : Nat → Prop, (∀ x ∈ next.getD i [], T x.toNat) → (∀ j, T j → ∀ x ∈ next.getD j [], T x.toNat) → ∀ j, (fromRow next i).getD j false = true → T j) := by
  unfold fromRow
  have hrow : ∀ x ∈ next.getD i [], 0 ≤ x ∧ x < (n : Int) := by
    intro x hx
    refine hv (next.getD i []) ?_ x hx
    rw [List.getD_eq_getElem?_getD, List.getElem?_eq_getElem (by omega)]; exact List.getElem_mem _
  obtain ⟨_, h2, h3, h4⟩ := fromF_spec next n hn hv (pot next (List.replicate next.length false) + (next.getD i []).length + 1) (next.getD i []) (List.replicate next.length false) (by simpa using hn) hrow (by omega)
    (fun j hj => by rw [getD_repl] at hj; cases hj)
  exact ⟨h2, h3, fun T t1 t2 => h4 T t1 (fun j hj => by rw [getD_repl] at hj; cases hj) t2⟩

theorem getD_false_lt {l : List Bool} {j : Nat} (h : l.getD j false = true) : j < l.length := by
  rw [List.getD_eq_getElem?_getD] at h
  cases hj : l[j]? with
  | none => rw [hj] at h; cases h
  | some b => exact (List.getElem?_eq_some_iff.1 hj).1

theorem rel_rows (next : List (List Int)) (n i j : Nat) (hi : i < n) : rel ((List.range n).map (fromRow next)) i j = (fromRow next i).getD j false := by
  unfold rel
  congr 1
  rw [List.getD_eq_getElem?_getD, List.getElem?_map, List.getElem?_range hi]; rfl

theorem transR_rows (next : List (List Int)) (n : Nat) (hn : next.length = n) (hv : ∀ r ∈ next, ∀ x ∈ r, 0 ≤ x ∧ x < (n : Int)) : TransR n ((List.range n).map (fromRow next)) := by
  intro i j k hi hj hk h1 h2
  rw [rel_rows _ _ _ _ hi] at h1 ⊢
  rw [rel_rows _ _ _ _ hj] at h2
  obtain ⟨a1, a2, _⟩ := fromRow_spec next n hn hv i hi
  obtain ⟨_, _, a3⟩ := fromRow_spec next n hn hv j hj
  exact a3 (fun k => (fromRow next i).getD k false = true) (fun x hx => a2 j h1 x hx) (fun j hj => a2 j hj) k h2

/-! ### Arranged: again and again the first one before which no other one is -/

theorem min_exists {n : Nat} {rows : List (List Bool)} (ht : TransR n rows) : ∀ l : List Nat, (∀ i ∈ l, i < n) → l ≠ [] → ∃ m ∈ l, ∀ j ∈ l, bef rows j m = false
  | [], _, h => absurd rfl h
  | [a], _, _ => ⟨a, by simp, fun j hj => by obtain rfl := List.mem_singleton.1 hj; exact bef_irrefl _ _⟩
  | a :: b :: t, hl, _ => by
    obtain ⟨m, hm, hmin⟩ := min_exists ht (b :: t) (fun i hi => hl i (List.mem_cons_of_mem _ hi)) (by simp)
    cases h : bef rows a m with
    | false => exact ⟨m, List.mem_cons_of_mem _ hm, fun j hj => by
        rcases List.mem_cons.1 hj with rfl | hj
        · exact h
        · exact hmin j hj⟩
    | true =>
      refine ⟨a, List.mem_cons_self, fun j hj => ?_⟩
      rcases List.mem_cons.1 hj with rfl | hj
      · exact bef_irrefl _ _
      · cases h2 : bef rows j a with
        | false => rfl
        | true =>
          have := bef_trans ht (hl j (List.mem_cons_of_mem _ hj)) (hl a List.mem_cons_self) (hl m (List.mem_cons_of_mem _ hm)) h2 h
          rw [hmin j hj] at this; cases this

theorem idxF_get (p : Int → Bool) : ∀ (l : List Int) (k0 : Nat), l.any p = true → ∃ (k : Nat) (x : Int), l[k]? = some x ∧ p x = true ∧ idxF p k0 l = k0 + k ∧ ∀ k' : Nat, k' < k → ∀ y, l[k']? = some y → p y = false
  | [], _, h => by simp at h
  | x :: l, k0, h => by
    by_cases hx : p x = true
    · exact ⟨0, x, rfl, hx, by simp [idxF, hx], fun k' hk' => absurd hk' (Nat.not_lt_zero _)⟩
    · have hl : l.any p = true := by simpa [hx] using h
      obtain ⟨k, y, h1, h2, h3, h4⟩ := idxF_get p l (k0 + 1) hl
      refine ⟨k + 1, y, by simpa using h1, h2, by simp [idxF, hx, h3]; omega, fun k' hk' z hz => ?_⟩
      cases k' with
      | zero => simp at hz; subst hz; simpa using hx
      | succ k' => exact h4 k' (by omega) z (by simpa using hz)

theorem pickK_spec {n : Nat} {rows : List (List Bool)} (ht : TransR n rows) (l : List Nat) (hl : ∀ i ∈ l, i < n) (hne : l ≠ []) :
    ∃ h : pickK rows l < l.length, (∀ j ∈ l, bef rows j l[pickK rows l] = false) ∧ ∀ k' (h' : k' < pickK rows l), ∃ j ∈ l, bef rows j (l[k']'(Nat.lt_trans h' h)) = true := by
  obtain ⟨m, hm, hmin⟩ := min_exists ht l hl hne
  have hany : (nats l).any (fun x => !l.any fun j => bef rows j x.toNat) = true := by
    unfold nats
    rw [List.any_map, List.any_eq_true]
    refine ⟨m, hm, ?_⟩
    simp only [Function.comp, Int.ofNat_eq_natCast, Int.toNat_natCast, Bool.not_eq_true', List.any_eq_false]
    intro j hj; rw [hmin j hj]; simp
  obtain ⟨k, x, h1, h2, h3, h4⟩ := idxF_get _ (nats l) 0 hany
  have hpk : pickK rows l = k := by unfold pickK; rw [h3]; omega
  unfold nats at h1
  rw [List.getElem?_map] at h1
  obtain ⟨y, hy, hyx⟩ := Option.map_eq_some_iff.1 h1
  obtain ⟨hk, hy2⟩ := List.getElem?_eq_some_iff.1 hy
  subst hyx
  simp only [Int.ofNat_eq_natCast, Int.toNat_natCast, Bool.not_eq_true', List.any_eq_false] at h2
  have hk' : pickK rows l < l.length := by rw [hpk]; exact hk
  refine ⟨hk', fun j hj => ?_, fun k' hk2 => ?_⟩
  · have := h2 j hj
    have e : l[pickK rows l] = y := by rw [← hy2]; congr 1
    rw [e]; simpa using this
  · have hkl : k' < l.length := Nat.lt_trans hk2 hk'
    have := h4 k' (by omega) (Int.ofNat l[k']) (by unfold nats; rw [List.getElem?_map, List.getElem?_eq_getElem hkl]; rfl)
    simp only [Int.ofNat_eq_natCast, Int.toNat_natCast, Bool.not_eq_false', List.any_eq_true] at this
    exact this

theorem _root_.List.getElem_cons_eraseIdx_perm' {l : List Nat} {k : Nat} (h : k < l.length) : (l[k] :: l.eraseIdx k).Perm l := by
  induction l generalizing k with
  | nil => cases h
  | cons a l ih =>
    cases k with
    | zero => exact List.Perm.refl _
    | succ k => exact (List.Perm.swap a _ _).trans ((ih (by simpa using h)).cons a)

theorem arrN_perm (rows : List (List Bool)) {n : Nat} (ht : TransR n rows) : ∀ (f : Nat) (l : List Nat), (∀ i ∈ l, i < n) → l.length = f → (arrN rows f l).Perm l
  | 0, l, _, h => by have := List.eq_nil_of_length_eq_zero h; subst this; exact List.Perm.refl _
  | f + 1, l, hl, h => by
    have hne : l ≠ [] := by intro e; subst e; cases h
    obtain ⟨hk, _⟩ := pickK_spec ht l hl hne
    unfold arrN
    rw [if_neg hne]
    have e : l.getD (pickK rows l) 0 = l[pickK rows l] := by rw [List.getD_eq_getElem?_getD, List.getElem?_eq_getElem hk]; rfl
    rw [e]
    exact ((arrN_perm rows ht f (l.eraseIdx (pickK rows l)) (fun i hi => hl i (List.mem_of_mem_eraseIdx hi)) (by rw [List.length_eraseIdx_of_lt hk]; omega)).cons _).trans (List.getElem_cons_eraseIdx_perm' hk)

theorem arrN_pairwise (rows : List (List Bool)) {n : Nat} (ht : TransR n rows) : ∀ (f : Nat) (l : List Nat), (∀ i ∈ l, i < n) → l.length = f → (arrN rows f l).Pairwise fun a b => bef rows b a = false
  | 0, l, _, h => by unfold arrN; exact List.Pairwise.nil
  | f + 1, l, hl, h => by
    have hne : l ≠ [] := by intro e; subst e; cases h
    obtain ⟨hk, hmin, _⟩ := pickK_spec ht l hl hne
    unfold arrN
    rw [if_neg hne]
    have e : l.getD (pickK rows l) 0 = l[pickK rows l] := by rw [List.getD_eq_getElem?_getD, List.getElem?_eq_getElem hk]; rfl
    rw [e]
    have hl2 : ∀ i ∈ l.eraseIdx (pickK rows l), i < n := fun i hi => hl i (List.mem_of_mem_eraseIdx hi)
    have hlen : (l.eraseIdx (pickK rows l)).length = f := by rw [List.length_eraseIdx_of_lt hk]; omega
    refine List.Pairwise.cons (fun b hb => hmin b ?_) (arrN_pairwise rows ht f _ hl2 hlen)
    exact List.mem_of_mem_eraseIdx ((arrN_perm rows ht f _ hl2 hlen).subset hb)

theorem sortI_perm (l : List Nat) : (sortI l).Perm l := List.mergeSort_perm _ _

theorem arrL_perm {rows : List (List Bool)} {n : Nat} (ht : TransR n rows) (l : List Nat) (hl : ∀ i ∈ l, i < n) : (arrL rows l).Perm l :=
  (arrN_perm rows ht _ _ (fun i hi => hl i ((sortI_perm l).subset hi)) rfl).trans (sortI_perm l)
theorem arrL_pairwise {rows : List (List Bool)} {n : Nat} (ht : TransR n rows) (l : List Nat) (hl : ∀ i ∈ l, i < n) : (arrL rows l).Pairwise fun a b => bef rows b a = false :=
  arrN_pairwise rows ht _ _ (fun i hi => hl i ((sortI_perm l).subset hi)) rfl

/-! ### The sides of a gap -/

theorem relat_symm (rows : List (List Bool)) (i j : Nat) : relat rows i j = relat rows j i := by unfold relat; rw [Bool.or_comm]
theorem adj_symm (rows : List (List Bool)) (i j : Nat) : adj rows i j = adj rows j i := by unfold adj; rw [relat_symm, Bool.and_comm]
theorem adj_or (rows : List (List Bool)) (i j : Nat) : adj rows i j = (rel rows i j || rel rows j i) := by
  unfold adj relat bef
  cases rel rows i j <;> cases rel rows j i <;> rfl

theorem unseen_mono {l S S' : List Nat} (h : ∀ x ∈ S, x ∈ S') : unseen l S' ≤ unseen l S := by
  unfold unseen
  induction l with
  | nil => exact Nat.le_refl _
  | cons a l ih =>
    by_cases h1 : a ∈ S
    · have h2 := h a h1
      simpa [h1, h2] using ih
    · by_cases h2 : a ∈ S'
      · simp [h1, h2] at ih ⊢; omega
      · simp [h1, h2] at ih ⊢; omega

theorem unseen_zero {l S : List Nat} (h : unseen l S = 0) : ∀ j ∈ l, j ∈ S := by
  unfold unseen at h
  have := List.eq_nil_of_length_eq_zero h
  intro j hj
  rw [List.filter_eq_nil_iff] at this
  simpa using this j hj

theorem unseen_lt {l S : List Nat} {i : Nat} (hi : i ∈ l) (hs : i ∉ S) : unseen l (i :: S) + 1 ≤ unseen l S := by
  unfold unseen
  induction l with
  | nil => cases hi
  | cons a l ih =>
    have hm : unseen l (i :: S) ≤ unseen l S := unseen_mono fun x hx => List.mem_cons_of_mem _ hx
    unfold unseen at hm
    by_cases ha : a = i
    · subst ha
      simp [hs] at hm ⊢; omega
    · have hi' : i ∈ l := by rcases List.mem_cons.1 hi with h | h; exact absurd h.symm ha; exact h
      have := ih hi'
      by_cases h1 : a ∈ S
      · simpa [h1, ha] using this
      · simp [h1, ha] at this ⊢; omega

/-- Lines that hang together over lines of a list. -/
inductive Hangs (rows : List (List Bool)) (l : List Nat) (i : Nat) : Nat → Prop
  | self : Hangs rows l i i
  | step {x y : Nat} : Hangs rows l i x → y ∈ l → adj rows x y = true → Hangs rows l i y

theorem Hangs.trans {rows : List (List Bool)} {l : List Nat} {i j k : Nat} (h : Hangs rows l i j) (h2 : Hangs rows l j k) : Hangs rows l i k := by
  induction h2 with
  | self => exact h
  | step _ hy ha ih => exact ih.step hy ha

/-- A visit: what it gives is what it has seen; it is closed; it hangs together. -/
structure VCl (rows : List (List Bool)) (l S : List Nat) (i : Nat) (r : List Nat × List Nat) : Prop where
  seen : ∀ x, x ∈ r.2 ↔ x ∈ S ∨ x ∈ r.1
  closed : ∀ x ∈ r.1, ∀ j ∈ l, adj rows x j = true → j ∈ r.2
  nodup : r.1.Nodup
  new : ∀ x ∈ r.1, x ∉ S
  mem : ∀ x ∈ r.1, x ∈ l
  self : i ∈ r.1
  hangs : ∀ x ∈ r.1, Hangs rows l i x

theorem vfold_cl {rows : List (List Bool)} {l S : List Nat} {i : Nat} {G : List Nat → Nat → List Nat × List Nat} {f : Nat} (hi : i ∈ l)
    (hG : ∀ S' j, (∀ x ∈ S, x ∈ S') → i ∈ S' → j ∈ l → j ∉ S' → VCl rows l S' j (G S' j)) :
    ∀ (t p : List Nat) (c : List Nat × List Nat), (∀ j ∈ t, j ∈ l) → (∀ x, x ∈ c.2 ↔ x ∈ S ∨ x ∈ c.1) → (∀ x ∈ c.1, x ≠ i → ∀ j ∈ l, adj rows x j = true → j ∈ c.2) → (∀ j ∈ p, adj rows i j = true → j ∈ c.2) →
      c.1.Nodup → (∀ x ∈ c.1, x ∉ S) → (∀ x ∈ c.1, x ∈ l) → i ∈ c.1 → (∀ x ∈ c.1, Hangs rows l i x) → (∀ j ∈ l, j ∈ p ∨ j ∈ t) → VCl rows l S i (t.foldl (vstep rows i G) c)
  | [], p, c, _, h1, h2, h3, h4, h5, h6, h7, h8, hp => ⟨h1, fun x hx j hj ha => by
      by_cases hxi : x = i
      · subst hxi
        rcases hp j hj with h | h
        · exact h3 j h ha
        · cases h
      · exact h2 x hx hxi j hj ha, h4, h5, h6, h7, h8⟩
  | j :: t, p, c, ht, h1, h2, h3, h4, h5, h6, h7, h8, hp => by
    have hp' : ∀ k ∈ l, k ∈ j :: p ∨ k ∈ t := fun k hk => by
      rcases hp k hk with h | h
      · exact .inl (List.mem_cons_of_mem _ h)
      · rcases List.mem_cons.1 h with h | h
        · exact .inl (by rw [h]; exact List.mem_cons_self)
        · exact .inr h
    have ht' : ∀ k ∈ t, k ∈ l := fun k hk => ht k (List.mem_cons_of_mem _ hk)
    rw [List.foldl_cons]
    unfold vstep
    by_cases hc : (!c.2.contains j && adj rows i j) = true
    · rw [if_pos hc]
      simp only [Bool.and_eq_true, Bool.not_eq_true', List.contains_iff_mem, ← Bool.not_eq_true] at hc
      have hjl := ht j List.mem_cons_self
      have hv := hG c.2 j (fun x hx => (h1 x).2 (.inl hx)) ((h1 i).2 (.inr h7)) hjl hc.1
      refine vfold_cl (f := f) hi hG t (j :: p) _ ht' (fun x => ?_) (fun x hx hxi k hk ha => ?_) (fun k hk ha => ?_) ?_ (fun x hx => ?_) (fun x hx => ?_) (List.mem_append_left _ h7) (fun x hx => ?_) hp'
      · rw [hv.seen, h1, List.mem_append, or_assoc]
      · rcases List.mem_append.1 hx with h | h
        · exact (hv.seen k).2 (.inl (h2 x h hxi k hk ha))
        · exact hv.closed x h k hk ha
      · rcases List.mem_cons.1 hk with rfl | hk
        · exact (hv.seen _).2 (.inr hv.self)
        · exact (hv.seen k).2 (.inl (h3 k hk ha))
      · rw [List.nodup_append]
        refine ⟨h4, hv.nodup, fun a ha b hb e => ?_⟩
        subst e
        exact hv.new a hb ((h1 a).2 (.inr ha))
      · rcases List.mem_append.1 hx with h | h
        · exact h5 x h
        · exact fun hs => hv.new x h ((h1 x).2 (.inl hs))
      · rcases List.mem_append.1 hx with h | h
        · exact h6 x h
        · exact hv.mem x h
      · rcases List.mem_append.1 hx with h | h
        · exact h8 x h
        · exact (Hangs.self.step hjl hc.2).trans (hv.hangs x h)
    · rw [if_neg hc]
      refine vfold_cl (f := f) hi hG t (j :: p) c ht' h1 h2 (fun k hk ha => ?_) h4 h5 h6 h7 h8 hp'
      rcases List.mem_cons.1 hk with rfl | hk
      · simp only [Bool.and_eq_true, Bool.not_eq_true', ha, and_true, Bool.not_eq_false] at hc
        simpa using hc
      · exact h3 k hk ha

theorem visit_cl (rows : List (List Bool)) (l : List Nat) : ∀ (f : Nat) (S : List Nat) (i : Nat), i ∈ l → i ∉ S → unseen l S ≤ f + 1 → VCl rows l S i (visit rows l f S i)
  | 0, S, i, hi, hs, hf => by
    have h0 := unseen_lt hi hs
    refine vfold_cl (f := 0) hi (fun S' j h1 h2 hj hjs => ?_) l [] ([i], i :: S) (fun _ h => h) (by simp [or_comm]) (by simp) (by simp) (by simp) (by simpa using hs) (by simpa using hi) (by simp) (by simp; exact Hangs.self) (fun _ h => .inr h)
    have : unseen l S' ≤ unseen l (i :: S) := unseen_mono fun x hx => by
      rcases List.mem_cons.1 hx with h | h
      · rw [h]; exact h2
      · exact h1 x h
    exact absurd (unseen_zero (by omega) j hj) hjs
  | f + 1, S, i, hi, hs, hf => by
    have h0 := unseen_lt hi hs
    refine vfold_cl (f := 0) hi (fun S' j h1 h2 hj hjs => ?_) l [] ([i], i :: S) (fun _ h => h) (by simp [or_comm]) (by simp) (by simp) (by simp) (by simpa using hs) (by simpa using hi) (by simp) (by simp; exact Hangs.self) (fun _ h => .inr h)
    have : unseen l S' ≤ unseen l (i :: S) := unseen_mono fun x hx => by
      rcases List.mem_cons.1 hx with h | h
      · rw [h]; exact h2
      · exact h1 x h
    exact visit_cl rows l f S' j hj hjs (by omega)

/-- The sides so far: closed, apart from each other, none empty, each in order. -/
structure SidesOk (rows : List (List Bool)) (l : List Nat) (c : List (List Nat) × List Nat) : Prop where
  seen : ∀ x, x ∈ c.2 ↔ x ∈ c.1.flatten
  closed : ∀ x ∈ c.2, ∀ j ∈ l, adj rows x j = true → j ∈ c.2
  nodup : c.1.flatten.Nodup
  mem : ∀ x ∈ c.2, x ∈ l
  apart : c.1.Pairwise fun a b => ∀ x ∈ a, ∀ y ∈ b, adj rows x y = false
  order : ∀ a ∈ c.1, a.Pairwise fun x y => bef rows y x = false
  full : ∀ a ∈ c.1, a ≠ []

theorem cstep_ok {rows : List (List Bool)} {n : Nat} (ht : TransR n rows) {l : List Nat} (hl : ∀ i ∈ l, i < n) {c : List (List Nat) × List Nat} (hc : SidesOk rows l c) {i : Nat} (hi : i ∈ l) :
    SidesOk rows l (cstep rows l c i) ∧ i ∈ (cstep rows l c i).2 ∧ ∀ x ∈ c.2, x ∈ (cstep rows l c i).2 := by
  unfold cstep
  by_cases h : c.2.contains i = true
  · rw [if_pos h]
    exact ⟨hc, by simpa using h, fun _ h => h⟩
  · rw [if_neg h]
    have hs : i ∉ c.2 := by simpa using h
    have hv := visit_cl rows l l.length c.2 i hi hs (by have : unseen l c.2 ≤ l.length := List.length_filter_le _ _; omega)
    have hp := arrL_perm ht (visit rows l l.length c.2 i).1 (fun x hx => hl x (hv.mem x hx))
    have hmem : ∀ x, x ∈ arrL rows (visit rows l l.length c.2 i).1 ↔ x ∈ (visit rows l l.length c.2 i).1 := fun x => hp.mem_iff
    refine ⟨⟨fun x => ?_, fun x hx j hj ha => ?_, ?_, fun x hx => ?_, ?_, fun a ha => ?_, fun a ha => ?_⟩, (hv.seen i).2 (.inr hv.self), fun x hx => (hv.seen x).2 (.inl hx)⟩
    · rw [hv.seen, hc.seen, List.flatten_append, List.mem_append, List.flatten_singleton, hmem]
    · rcases (hv.seen x).1 hx with h | h
      · exact (hv.seen j).2 (.inl (hc.closed x h j hj ha))
      · exact hv.closed x h j hj ha
    · rw [List.flatten_append, List.flatten_singleton, List.nodup_append]
      refine ⟨hc.nodup, hp.nodup_iff.2 hv.nodup, fun a ha b hb e => ?_⟩
      subst e
      exact hv.new a ((hmem a).1 hb) ((hc.seen a).2 ha)
    · rcases (hv.seen x).1 hx with h | h
      · exact hc.mem x h
      · exact hv.mem x h
    · rw [List.pairwise_append]
      refine ⟨hc.apart, List.pairwise_singleton _ _, fun a ha b hb x hx y hy => ?_⟩
      obtain rfl := List.mem_singleton.1 hb
      have hy' := (hmem y).1 hy
      cases hxy : adj rows x y with
      | false => rfl
      | true => exact absurd (hc.closed x ((hc.seen x).2 (List.mem_flatten.2 ⟨a, ha, hx⟩)) y (hv.mem y hy') hxy) (hv.new y hy')
    · rcases List.mem_append.1 ha with h | h
      · exact hc.order a h
      · obtain rfl := List.mem_singleton.1 h
        exact arrL_pairwise ht _ (fun x hx => hl x (hv.mem x hx))
    · rcases List.mem_append.1 ha with h | h
      · exact hc.full a h
      · obtain rfl := List.mem_singleton.1 h
        intro e
        have := (hmem i).2 hv.self
        rw [e] at this; cases this

theorem cfold_ok {rows : List (List Bool)} {n : Nat} (ht : TransR n rows) {l : List Nat} (hl : ∀ i ∈ l, i < n) : ∀ (t : List Nat) (c : List (List Nat) × List Nat), (∀ j ∈ t, j ∈ l) → SidesOk rows l c →
    SidesOk rows l (t.foldl (cstep rows l) c) ∧ (∀ j ∈ t, j ∈ (t.foldl (cstep rows l) c).2) ∧ ∀ x ∈ c.2, x ∈ (t.foldl (cstep rows l) c).2
  | [], c, _, hc => ⟨hc, fun _ h => (by cases h), fun _ h => h⟩
  | j :: t, c, htl, hc => by
    obtain ⟨h1, h2, h3⟩ := cstep_ok ht hl hc (htl j List.mem_cons_self)
    obtain ⟨k1, k2, k3⟩ := cfold_ok ht hl t (cstep rows l c j) (fun x hx => htl x (List.mem_cons_of_mem _ hx)) h1
    rw [List.foldl_cons]
    refine ⟨k1, fun x hx => ?_, fun x hx => k3 x (h3 x hx)⟩
    rcases List.mem_cons.1 hx with rfl | hx
    · exact k3 _ h2
    · exact k2 x hx

theorem classesL_ok {rows : List (List Bool)} {n : Nat} (ht : TransR n rows) {l : List Nat} (hl : ∀ i ∈ l, i < n) :
    SidesOk rows l (classesS rows l l) ∧ (∀ x, x ∈ (classesL rows l).flatten ↔ x ∈ l) := by
  obtain ⟨h1, h2, _⟩ := cfold_ok ht hl l ([], []) (fun _ h => h) ⟨by simp, by simp, by simp, by simp, by simp, by simp, by simp⟩
  exact ⟨h1, fun x => ⟨fun hx => h1.mem x ((h1.seen x).2 hx), fun hx => (h1.seen x).1 (h2 x hx)⟩⟩

/-! ### Settled lines and gaps -/

theorem relat_cases {rows : List (List Bool)} {i j : Nat} (h : relat rows i j = true) : bef rows i j = true ∨ bef rows j i = true := by
  unfold relat at h; simpa using h

theorem sortB_pairwise {n : Nat} {rows : List (List Bool)} (ht : TransR n rows) (S : List Nat) (hS : ∀ i ∈ S, i < n) (hnd : S.Nodup) (htot : ∀ i ∈ S, ∀ j ∈ S, i ≠ j → relat rows i j = true) :
    (sortB rows S).Pairwise fun a b => bef rows a b = true := by
  have hle : ∀ x y : { i : Nat // i ∈ S }, (!bef rows y.1 x.1) = true ↔ (x = y ∨ bef rows x.1 y.1 = true) := by
    intro x y
    simp only [Bool.not_eq_true']
    constructor
    · intro h
      by_cases e : x = y
      · exact .inl e
      · rcases relat_cases (htot x.1 x.2 y.1 y.2 (fun h => e (Subtype.ext h))) with h1 | h1
        · exact .inr h1
        · rw [h] at h1; cases h1
    · rintro (h | h)
      · rw [h]; exact bef_irrefl _ _
      · exact bef_asymm h
  have h0 : (S.attach.mergeSort fun x y => !bef rows y.1 x.1).Pairwise fun x y => (!bef rows y.1 x.1) = true := by
    refine List.pairwise_mergeSort (fun x y z => ?_) (fun x y => ?_) _
    · rw [hle, hle, hle]
      rintro (h1 | h1) (h2 | h2)
      · exact .inl (h1.trans h2)
      · exact .inr (by rw [h1]; exact h2)
      · exact .inr (by rw [← h2]; exact h1)
      · exact .inr (bef_trans ht (hS _ x.2) (hS _ y.2) (hS _ z.2) h1 h2)
    · rw [Bool.or_eq_true, hle, hle]
      by_cases e : x = y
      · exact .inl (.inl e)
      · rcases relat_cases (htot x.1 x.2 y.1 y.2 (fun h => e (Subtype.ext h))) with h1 | h1
        · exact .inl (.inr h1)
        · exact .inr (.inr h1)
  have h1 : (S.attach.mergeSort fun x y => !bef rows y.1 x.1).map Subtype.val = sortB rows S := by
    unfold sortB
    rw [List.map_mergeSort (s := fun i j => !bef rows j i) (fun a _ b _ => rfl), List.attach_map_subtype_val]
  have hnd2 : (sortB rows S).Nodup := (List.mergeSort_perm S _).nodup_iff.2 hnd
  rw [← h1] at hnd2 ⊢
  rw [List.pairwise_map]
  unfold List.Nodup at hnd2
  rw [List.pairwise_map] at hnd2
  refine (h0.and hnd2).imp fun {x y} h => ?_
  rcases (hle x y).1 h.1 with e | e
  · exact absurd (congrArg Subtype.val e) h.2
  · exact e

theorem sortB_perm (rows : List (List Bool)) (S : List Nat) : (sortB rows S).Perm S := List.mergeSort_perm _ _

/-- A list in order: how many of it are before a line that is before or behind each of them. -/
theorem gap_prefix {n : Nat} {rows : List (List Bool)} (ht : TransR n rows) : ∀ (inn : List Nat) (u : Nat), (inn.Pairwise fun a b => bef rows a b = true) → (∀ i ∈ inn, i < n) → u < n →
    ∀ (k : Nat) (s : Nat), inn[k]? = some s → (bef rows s u = true ↔ k < gapN rows inn u)
  | [], _, _, _, _, _, _, h => by simp at h
  | a :: inn, u, hp, hl, hu, k, s, hk => by
    obtain ⟨h1, h2⟩ := List.pairwise_cons.1 hp
    have ih := gap_prefix ht inn u h2 (fun i hi => hl i (List.mem_cons_of_mem _ hi)) hu
    have hg : gapN rows (a :: inn) u = (if bef rows a u = true then 1 else 0) + gapN rows inn u := by
      unfold gapN
      rw [List.filter_cons]
      split <;> simp [Nat.add_comm]
    have han : a < n := hl a List.mem_cons_self
    by_cases ha : bef rows a u = true
    · rw [hg, if_pos ha]
      cases k with
      | zero => simp at hk; subst hk; simp [ha]; omega
      | succ k => rw [ih k s (by simpa using hk)]; omega
    · have h0 : gapN rows inn u = 0 := by
        unfold gapN
        rw [List.length_eq_zero_iff, List.filter_eq_nil_iff]
        intro x hx hxu
        exact ha (bef_trans ht han (hl x (List.mem_cons_of_mem _ hx)) hu (h1 x hx) hxu)
      rw [hg, if_neg ha, h0]
      cases k with
      | zero => simp at hk; subst hk; simp [ha]
      | succ k =>
        have := ih k s (by simpa using hk)
        rw [h0] at this
        rw [this]; omega

/-- What the plain law needs of the living lines. -/
structure Lv (n : Nat) (rows : List (List Bool)) (living : List Nat) : Prop where
  t : TransR n rows
  lt : ∀ i ∈ living, i < n
  nd : living.Nodup

theorem mem_inL {rows : List (List Bool)} {living : List Nat} {i : Nat} : i ∈ inL rows living living ↔ i ∈ living ∧ ∀ j ∈ living, i ≠ j → relat rows i j = true := by
  unfold inL unset
  rw [List.mem_filter]
  simp only [Bool.not_eq_true', List.any_eq_false, Bool.and_eq_true, decide_eq_true_eq, not_and, Bool.not_eq_false]
theorem mem_outL {rows : List (List Bool)} {living : List Nat} {i : Nat} : i ∈ outL rows living living ↔ i ∈ living ∧ ∃ j ∈ living, i ≠ j ∧ relat rows i j = false := by
  unfold outL unset
  rw [List.mem_filter]
  simp only [List.any_eq_true, Bool.and_eq_true, decide_eq_true_eq, Bool.not_eq_true']

theorem Lv.inn {n : Nat} {rows : List (List Bool)} {living : List Nat} (h : Lv n rows living) : (sortB rows (inL rows living living)).Pairwise fun a b => bef rows a b = true :=
  sortB_pairwise h.t _ (fun i hi => h.lt i (mem_inL.1 hi).1) (h.nd.sublist List.filter_sublist) fun _ hi j hj hne => (mem_inL.1 hi).2 j (mem_inL.1 hj).1 hne

theorem inOut_perm (rows : List (List Bool)) (living : List Nat) : (inL rows living living ++ outL rows living living).Perm living := by
  unfold inL outL
  have := List.filter_append_perm (fun i => !unset rows living i) living
  simpa using this

/-- A settled line and another living line. -/
theorem Lv.rel {n : Nat} {rows : List (List Bool)} {living : List Nat} (_h : Lv n rows living) {s u : Nat} (hs : s ∈ inL rows living living) (hu : u ∈ living) (hne : s ≠ u) : bef rows s u = true ∨ bef rows u s = true :=
  relat_cases ((mem_inL.1 hs).2 u hu hne)

/-! ### The regions -/

def Reg.all (r : Reg) : List Nat := r.lines ++ r.sides.flatten
/-- The sequence of an order. -/
def seqL (rows : List (List Bool)) (living : List Nat) : List Nat := (regionsL rows living).flatMap Reg.all

/-- The regions so far and the run, side by side. -/
def flatR (c : List Reg × List Nat) : List Nat := c.1.flatMap Reg.all ++ c.2
theorem flatR_end (c : List Reg × List Nat) : (regEnd c).flatMap Reg.all = flatR c := by
  unfold regEnd flatR
  by_cases h : c.2 = []
  · simp [h]
  · simp [h, Reg.all]

theorem flatR_step (rows : List (List Bool)) (inn out : List Nat) (c : List Reg × List Nat) (m : Nat) :
    flatR (regStep rows inn out c m) = flatR c ++ (classesL rows (out.filter fun i => gapN rows inn i == m)).flatten ++ inn[m]?.toList := by
  obtain ⟨regs, run⟩ := c
  unfold regStep flatR
  dsimp only
  generalize out.filter (fun i => gapN rows inn i == m) = g
  by_cases hg : g = []
  · subst hg
    have : classesL rows [] = [] := rfl
    cases inn[m]? <;> simp [this]
  · by_cases hr : run = []
    · subst hr; cases inn[m]? <;> simp [hg, Reg.all]
    · cases inn[m]? <;> simp [hg, hr, Reg.all]

/-- What stands before round m. -/
def front (rows : List (List Bool)) (inn out : List Nat) (m : Nat) : List Nat := flatR (regRun rows inn out m)
theorem front_succ (rows : List (List Bool)) (inn out : List Nat) (m : Nat) : front rows inn out (m + 1) = front rows inn out m ++ (classesL rows (out.filter fun i => gapN rows inn i == m)).flatten ++ inn[m]?.toList := by
  unfold front; rw [regRun_succ, flatR_step]

theorem classes_perm {rows : List (List Bool)} {n : Nat} (ht : TransR n rows) {l : List Nat} (hl : ∀ i ∈ l, i < n) (hnd : l.Nodup) : (classesL rows l).flatten.Perm l :=
  (List.perm_ext_iff_of_nodup (classesL_ok ht hl).1.nodup hnd).2 (classesL_ok ht hl).2

theorem front_mem {n : Nat} {rows : List (List Bool)} (ht : TransR n rows) {inn out : List Nat} (hout : ∀ i ∈ out, i < n) : ∀ (m : Nat) (x : Nat), x ∈ front rows inn out m ↔ (x ∈ inn.take m ∨ (x ∈ out ∧ gapN rows inn x < m))
  | 0, x => by simp [front, regRun, flatR]
  | m + 1, x => by
    rw [front_succ, List.mem_append, List.mem_append, front_mem ht hout m x, (classesL_ok ht (l := out.filter fun i => gapN rows inn i == m) (fun i hi => hout i (List.mem_filter.1 hi).1)).2, List.mem_filter]
    have : x ∈ inn.take (m + 1) ↔ x ∈ inn.take m ∨ x ∈ inn[m]?.toList := by
      rw [List.take_add_one, List.mem_append]
    rw [this]
    simp only [beq_iff_eq]
    constructor
    · rintro (((h | ⟨h1, h2⟩) | ⟨h1, h2⟩) | h)
      · exact .inl (.inl h)
      · exact .inr ⟨h1, by omega⟩
      · exact .inr ⟨h1, by omega⟩
      · exact .inl (.inr h)
    · rintro ((h | h) | ⟨h1, h2⟩)
      · exact .inl (.inl (.inl h))
      · exact .inr h
      · by_cases e : gapN rows inn x = m
        · exact .inl (.inr ⟨h1, e⟩)
        · exact .inl (.inl (.inr ⟨h1, by omega⟩))

theorem classes_pairwise {rows : List (List Bool)} {n : Nat} (ht : TransR n rows) {l : List Nat} (hl : ∀ i ∈ l, i < n) : (classesL rows l).flatten.Pairwise fun a b => bef rows b a = false := by
  have h := (classesL_ok ht hl).1
  rw [List.pairwise_flatten]
  refine ⟨h.order, h.apart.imp fun {a b} hab x hx y hy => ?_⟩
  have := hab x hx y hy
  rw [adj_or, Bool.or_eq_false_iff] at this
  unfold bef; rw [this.2]; rfl

/-- Whatever stands behind another line in the front is not before it. -/
theorem front_pairwise {n : Nat} {rows : List (List Bool)} {living : List Nat} (h : Lv n rows living) : ∀ m : Nat,
    (front rows (sortB rows (inL rows living living)) (outL rows living living) m).Pairwise fun a b => bef rows b a = false := by
  have hin : ∀ i, i ∈ sortB rows (inL rows living living) ↔ i ∈ inL rows living living := fun i => (sortB_perm _ _).mem_iff
  have hlt : ∀ i ∈ sortB rows (inL rows living living), i < n := fun i hi => h.lt i (mem_inL.1 ((hin i).1 hi)).1
  have hol : ∀ i ∈ outL rows living living, i < n := fun i hi => h.lt i (mem_outL.1 hi).1
  have hpre := fun u hu => gap_prefix h.t (sortB rows (inL rows living living)) u h.inn hlt hu
  have hpw := h.inn
  have hne : ∀ s u, s ∈ sortB rows (inL rows living living) → u ∈ outL rows living living → s ≠ u := by
    intro s u hs hu e
    subst e
    obtain ⟨_, j, hj, h1, h2⟩ := mem_outL.1 hu
    have := (mem_inL.1 ((hin _).1 hs)).2 j hj h1
    rw [h2] at this; cases this
  have hrel : ∀ s u, s ∈ sortB rows (inL rows living living) → u ∈ outL rows living living → bef rows s u = true ∨ bef rows u s = true := fun s u hs hu => h.rel ((hin s).1 hs) (mem_outL.1 hu).1 (hne s u hs hu)
  have hfm := fun m x => front_mem (inn := sortB rows (inL rows living living)) h.t hol m x
  generalize sortB rows (inL rows living living) = inn at *
  generalize outL rows living living = out at *
  intro m
  induction m with
  | zero => simp [front, regRun, flatR]
  | succ m ih =>
    rw [front_succ, List.pairwise_append, List.pairwise_append]
    have hgm : ∀ y, y ∈ (classesL rows (out.filter fun i => gapN rows inn i == m)).flatten ↔ y ∈ out ∧ gapN rows inn y = m := by
      intro y
      rw [(classesL_ok h.t (l := out.filter fun i => gapN rows inn i == m) (fun i hi => hol i (List.mem_filter.1 hi).1)).2, List.mem_filter]
      simp
    refine ⟨⟨ih, classes_pairwise h.t (fun i hi => hol i (List.mem_filter.1 hi).1), fun x hx y hy => ?_⟩, ?_, fun x hx y hy => ?_⟩
    · obtain ⟨hyo, hyg⟩ := (hgm y).1 hy
      rcases (hfm m x).1 hx with hx | ⟨hxo, hxg⟩
      · obtain ⟨k, hk⟩ := List.mem_iff_getElem?.1 hx
        rw [List.getElem?_take] at hk
        split at hk
        · have := (hpre y (hol y hyo) k x hk).2 (by omega)
          exact bef_asymm this
        · cases hk
      · cases hb : bef rows y x with
        | false => rfl
        | true =>
          have hk : gapN rows inn x < inn.length := by
            have : gapN rows inn y ≤ inn.length := List.length_filter_le _ _
            omega
          have e := List.getElem?_eq_getElem hk
          have h1 := (hpre y (hol y hyo) _ _ e).2 (by omega)
          have h2 := bef_trans h.t (hlt _ (List.getElem_mem hk)) (hol y hyo) (hol x hxo) h1 hb
          have := (hpre x (hol x hxo) _ _ e).1 h2
          omega
    · cases inn[m]? <;> simp
    · cases hm : inn[m]? with
      | none => rw [hm] at hy; simp at hy
      | some s =>
        rw [hm] at hy
        simp at hy
        subst hy
        have hsm : y ∈ inn := List.mem_of_getElem? hm
        have key : x ∈ inn.take m ∨ (x ∈ out ∧ gapN rows inn x ≤ m) := by
          rcases List.mem_append.1 hx with hx | hx
          · rcases (hfm m x).1 hx with h | h
            · exact .inl h
            · exact .inr ⟨h.1, by omega⟩
          · have := (hgm x).1 hx
            exact .inr ⟨this.1, by omega⟩
        rcases key with hx | ⟨hxo, hxg⟩
        · obtain ⟨k, hk⟩ := List.mem_iff_getElem?.1 hx
          rw [List.getElem?_take] at hk
          split at hk
          · rename_i hkm
            obtain ⟨a1, b1⟩ := List.getElem?_eq_some_iff.1 hk
            obtain ⟨a2, b2⟩ := List.getElem?_eq_some_iff.1 hm
            have := List.pairwise_iff_getElem.1 hpw k m a1 a2 hkm
            rw [b1, b2] at this
            exact bef_asymm this
          · cases hk
        · cases hb : bef rows y x with
          | false => rfl
          | true =>
            have := (hpre x (hol x hxo) m y hm).1 hb
            omega

theorem seqL_eq (rows : List (List Bool)) (living : List Nat) : seqL rows living = front rows (sortB rows (inL rows living living)) (outL rows living living) ((sortB rows (inL rows living living)).length + 1) := by
  unfold seqL regionsL front; rw [flatR_end]

/-- P23.3: of two lines of the sequence the later one is not before the earlier one. -/
theorem seqL_pairwise {n : Nat} {rows : List (List Bool)} {living : List Nat} (h : Lv n rows living) : (seqL rows living).Pairwise fun a b => bef rows b a = false := by
  rw [seqL_eq]; exact front_pairwise h _

theorem front_perm {n : Nat} {rows : List (List Bool)} (ht : TransR n rows) {inn out : List Nat} (hout : ∀ i ∈ out, i < n) (hnd : out.Nodup) : ∀ m : Nat,
    (front rows inn out m).Perm (inn.take m ++ out.filter fun x => decide (gapN rows inn x < m))
  | 0 => by simp [front, regRun, flatR]
  | m + 1 => by
    rw [front_succ]
    have h1 := front_perm ht (inn := inn) hout hnd m
    have h2 := classes_perm ht (l := out.filter fun i => gapN rows inn i == m) (fun i hi => hout i (List.mem_filter.1 hi).1) (hnd.sublist List.filter_sublist)
    have h3 : (out.filter fun x => decide (gapN rows inn x < m + 1)).Perm ((out.filter fun x => decide (gapN rows inn x < m)) ++ out.filter fun i => gapN rows inn i == m) := by
      have := (List.filter_append_perm (fun x => decide (gapN rows inn x < m)) (out.filter fun x => decide (gapN rows inn x < m + 1))).symm
      rw [List.filter_filter, List.filter_filter] at this
      refine this.trans (List.Perm.of_eq ?_)
      congr 1
      · refine List.filter_congr fun x _ => ?_
        by_cases h : gapN rows inn x < m
        · simp [h]; omega
        · simp [h]
      · refine List.filter_congr fun x _ => ?_
        rw [Bool.eq_iff_iff]
        simp; omega
    rw [List.take_add_one]
    refine ((h1.append h2).append_right _).trans ?_
    rw [List.append_assoc, List.append_assoc, List.append_assoc]
    refine List.Perm.append_left _ ?_
    rw [← List.append_assoc]
    exact List.perm_append_comm.trans (List.Perm.append_left _ h3.symm)

/-- P23.2: the sequence holds the living lines, each once. -/
theorem seqL_perm {n : Nat} {rows : List (List Bool)} {living : List Nat} (h : Lv n rows living) : (seqL rows living).Perm living := by
  rw [seqL_eq]
  have hol : ∀ i ∈ outL rows living living, i < n := fun i hi => h.lt i (mem_outL.1 hi).1
  refine (front_perm h.t hol (h.nd.sublist List.filter_sublist) _).trans ?_
  rw [List.take_of_length_le (Nat.le_succ _)]
  have : (outL rows living living).filter (fun x => decide (gapN rows (sortB rows (inL rows living living)) x < (sortB rows (inL rows living living)).length + 1)) = outL rows living living := by
    rw [List.filter_eq_self]
    intro x _
    have : gapN rows (sortB rows (inL rows living living)) x ≤ (sortB rows (inL rows living living)).length := List.length_filter_le _ _
    simp; omega
  rw [this]
  exact ((sortB_perm _ _).append_right _).trans (inOut_perm rows living)
end Go.Proofs.Lg

namespace Go.Proofs.Lg
open Go

def Gr.dim (g : Gr) : Nat := if g.check = 0 then g.lines.length else 0

theorem Gr.sq (g : Gr) : Sq g.dim g.reach := by
  unfold Gr.dim Gr.reach
  split
  · refine ⟨by simp, fun r hr => ?_⟩
    obtain ⟨i, _, rfl⟩ := List.mem_map.1 hr
    rw [fromRow_length, g.followers_length]
  · exact ⟨rfl, by simp⟩

theorem Gr.transR (g : Gr) : TransR g.dim g.reach := by
  unfold Gr.dim Gr.reach
  split
  · rename_i h
    have := Gr.followers_valid (Gr.check_ok h).2
    rw [g.followers_length] at this
    exact transR_rows g.followers g.lines.length g.followers_length this
  · intro i j k hi; omega

theorem livFrom_mem : ∀ (l : List Vtx) (k i : Nat), i ∈ livFrom k l ↔ k ≤ i ∧ ∃ x, l[i - k]? = some x ∧ x.living = true
  | [], k, i => by simp [livFrom]
  | x :: l, k, i => by
    have ih := livFrom_mem l (k + 1) i
    by_cases hi : i = k
    · subst hi
      by_cases hx : x.living = true
      · simp [livFrom, hx]
      · simp only [livFrom, hx, Bool.false_eq_true, if_false, ih]
        simp [hx]; omega
    · have e : k ≤ i → (x :: l)[i - k]? = l[i - (k + 1)]? := fun h => by
        rw [show i - k = (i - (k + 1)) + 1 by omega]; rfl
      by_cases hx : x.living = true
      · simp only [livFrom, hx, if_true, List.mem_cons, ih, hi, false_or]
        constructor
        · rintro ⟨h1, h2⟩; exact ⟨by omega, by rw [e (by omega)]; exact h2⟩
        · rintro ⟨h1, h2⟩; exact ⟨by omega, by rw [e h1] at h2; exact h2⟩
      · simp only [livFrom, hx, Bool.false_eq_true, if_false, ih]
        constructor
        · rintro ⟨h1, h2⟩; exact ⟨by omega, by rw [e (by omega)]; exact h2⟩
        · rintro ⟨h1, h2⟩; exact ⟨by omega, by rw [e h1] at h2; exact h2⟩

theorem livFrom_sorted : ∀ (l : List Vtx) (k : Nat), (livFrom k l).Pairwise (· < ·)
  | [], _ => List.Pairwise.nil
  | x :: l, k => by
    unfold livFrom
    split
    · exact List.Pairwise.cons (fun j hj => by have := ((livFrom_mem l (k + 1) j).1 hj).1; omega) (livFrom_sorted l (k + 1))
    · exact livFrom_sorted l (k + 1)

theorem Gr.living_lt (g : Gr) : ∀ i ∈ g.living, i < g.dim := by
  unfold Gr.living Gr.dim
  split
  · intro i hi
    obtain ⟨_, x, hx, _⟩ := (livFrom_mem _ _ _).1 hi
    have := (List.getElem?_eq_some_iff.1 hx).1
    omega
  · simp

theorem Gr.living_sorted (g : Gr) : g.living.Pairwise (· < ·) := by
  unfold Gr.living
  split
  · exact livFrom_sorted _ _
  · exact List.Pairwise.nil

theorem Gr.living_nd (g : Gr) : g.living.Nodup := g.living_sorted.imp fun h => Nat.ne_of_lt h

theorem Gr.lv (g : Gr) : Lv g.dim g.reach g.living := ⟨g.transR, g.living_lt, g.living_nd⟩

theorem Gr.living_len (g : Gr) : g.living.length ≤ g.lines.length := by
  unfold Gr.living
  split
  · have := livFrom_length g.lines 0; unfold livL; exact this
  · simp

theorem Gr.dim_le (g : Gr) : g.dim ≤ g.lines.length := by unfold Gr.dim; split <;> omega

/-- Before is what the table says. -/
theorem Gr.before_bef {g : Gr} (h : g.check = 0) {i j : Nat} (hi : i < g.lines.length) (hj : j < g.lines.length) : g.before i j = bef g.reach i j := by
  unfold Gr.before bef Gr.reach
  rw [if_pos h, rel_rows _ _ _ _ hi, rel_rows _ _ _ _ hj]
end Go.Proofs.Lg

namespace Go.Proofs.Lg

/-! ### What the regions look like -/

/-- A region as the chapter wants it: lines and no sides, or sides and no lines; nothing in it is empty. -/
def GoodReg (r : Reg) : Prop := (r.conflict = false ∧ r.lines ≠ [] ∧ r.sides = []) ∨ (r.conflict = true ∧ r.lines = [] ∧ r.sides ≠ [] ∧ ∀ s ∈ r.sides, s ≠ [])

/-- No two regions without a conflict stand beside each other; behind the regions stands what p says. -/
def Alter : Bool → List Reg → Prop
  | _, [] => True
  | p, r :: l => (p = true ∨ r.conflict = true) ∧ Alter r.conflict l

theorem alter_append : ∀ (p : Bool) (a b : List Reg), Alter p (a ++ b) ↔ Alter p a ∧ Alter ((a.getLast?.map (·.conflict)).getD p) b
  | p, [], b => by simp [Alter]
  | p, r :: a, b => by
    have ih := alter_append r.conflict a b
    cases a with
    | nil => simp only [List.cons_append, List.nil_append, Alter, List.getLast?_singleton, Option.map_some, Option.getD_some, and_true]
    | cons s a =>
      rw [List.cons_append]
      simp only [Alter] at ih ⊢
      rw [List.getLast?_cons_cons]
      constructor
      · rintro ⟨h1, h2⟩
        have h3 := ih.1 h2
        refine ⟨⟨h1, h3.1⟩, ?_⟩
        cases h : (s :: a).getLast? with
        | none => simp at h
        | some x => rw [h] at h3; exact h3.2
      · rintro ⟨⟨h1, h2⟩, h3⟩
        refine ⟨h1, ih.2 ⟨h2, ?_⟩⟩
        cases h : (s :: a).getLast? with
        | none => simp at h
        | some x => rw [h] at h3; exact h3

theorem classesL_ne {rows : List (List Bool)} {n : Nat} (ht : TransR n rows) {l : List Nat} (hl : ∀ i ∈ l, i < n) (h : l ≠ []) : classesL rows l ≠ [] := by
  obtain ⟨x, t, rfl⟩ : ∃ x t, l = x :: t := by cases l with | nil => exact absurd rfl h | cons x t => exact ⟨x, t, rfl⟩
  intro e
  have := (classesL_ok ht hl).2 x
  rw [e] at this
  simp at this

/-- The regions so far. -/
structure RunOk (c : List Reg × List Nat) : Prop where
  good : ∀ r ∈ c.1, GoodReg r
  alter : Alter true c.1
  last : ∀ r, c.1.getLast? = some r → r.conflict = true

theorem regStep_ok {rows : List (List Bool)} {n : Nat} (ht : TransR n rows) {inn out : List Nat} (hout : ∀ i ∈ out, i < n) {c : List Reg × List Nat} (hc : RunOk c) (m : Nat) : RunOk (regStep rows inn out c m) := by
  obtain ⟨regs, run⟩ := c
  obtain ⟨h1, h2, h3⟩ := hc
  dsimp only at h1 h2 h3
  have hg : ∀ i ∈ (out.filter fun i => gapN rows inn i == m), i < n := fun i hi => hout i (List.mem_filter.1 hi).1
  unfold regStep
  dsimp only
  generalize (out.filter fun i => gapN rows inn i == m) = g at hg
  have key : RunOk ((if g = [] then (regs, run) else ((if run = [] then regs else regs ++ [⟨false, run, []⟩]) ++ [⟨true, [], classesL rows g⟩], [])).1, run) := by
    by_cases hge : g = []
    · simp only [hge, if_true]; exact ⟨h1, h2, h3⟩
    · have hlast : (regs.getLast?.map (·.conflict)).getD true = true := by
        cases h : regs.getLast? with
        | none => rfl
        | some r => simp [h3 r h]
      have hcf : GoodReg ⟨true, [], classesL rows g⟩ := .inr ⟨rfl, rfl, classesL_ne ht hg hge, (classesL_ok ht hg).1.full⟩
      simp only [hge, if_false]
      by_cases hr : run = []
      · simp only [hr, if_true]
        refine ⟨fun r hr' => ?_, ?_, fun r hr' => ?_⟩
        · rcases List.mem_append.1 hr' with h | h
          · exact h1 r h
          · obtain rfl := List.mem_singleton.1 h; exact hcf
        · rw [alter_append, hlast]
          exact ⟨h2, .inl rfl, trivial⟩
        · rw [List.getLast?_append] at hr'
          simp at hr'; rw [← hr']
      · simp only [hr, if_false]
        refine ⟨fun r hr' => ?_, ?_, fun r hr' => ?_⟩
        · rcases List.mem_append.1 hr' with h | h
          · rcases List.mem_append.1 h with h | h
            · exact h1 r h
            · obtain rfl := List.mem_singleton.1 h; exact .inl ⟨rfl, hr, rfl⟩
          · obtain rfl := List.mem_singleton.1 h; exact hcf
        · rw [List.append_assoc, alter_append, hlast]
          exact ⟨h2, .inl rfl, .inr rfl, trivial⟩
        · rw [List.getLast?_append] at hr'
          simp at hr'; rw [← hr']
  by_cases hge : g = []
  · subst hge
    cases inn[m]? <;> exact ⟨h1, h2, h3⟩
  · simp only [hge, if_false] at key ⊢
    cases inn[m]? <;> exact ⟨key.1, key.2, key.3⟩

theorem regRun_ok {rows : List (List Bool)} {n : Nat} (ht : TransR n rows) {inn out : List Nat} (hout : ∀ i ∈ out, i < n) : ∀ m : Nat, RunOk (regRun rows inn out m)
  | 0 => ⟨by simp [regRun], trivial, by simp [regRun]⟩
  | m + 1 => by rw [regRun_succ]; exact regStep_ok ht hout (regRun_ok ht hout m) m

/-- P23.4, its first half: what each region looks like, and how they stand beside each other. -/
theorem regionsL_good {n : Nat} {rows : List (List Bool)} {living : List Nat} (h : Lv n rows living) : (∀ r ∈ regionsL rows living, GoodReg r) ∧ Alter true (regionsL rows living) := by
  have hok := regRun_ok (inn := sortB rows (inL rows living living)) h.t (out := outL rows living living) (fun i hi => h.lt i (mem_outL.1 hi).1) ((sortB rows (inL rows living living)).length + 1)
  unfold regionsL
  generalize regRun rows _ _ _ = c at hok
  unfold regEnd
  by_cases hr : c.2 = []
  · rw [if_pos hr]; exact ⟨hok.good, hok.alter⟩
  · rw [if_neg hr]
    refine ⟨fun r hr' => ?_, ?_⟩
    · rcases List.mem_append.1 hr' with h | h
      · exact hok.good r h
      · obtain rfl := List.mem_singleton.1 h; exact .inl ⟨rfl, hr, rfl⟩
    · rw [alter_append]
      refine ⟨hok.alter, .inl ?_, trivial⟩
      cases hl : c.1.getLast? with
      | none => rfl
      | some r => simp [hok.last r hl]

theorem alter_get : ∀ (p : Bool) (l : List Reg) (i : Nat) (r s : Reg), Alter p l → l[i]? = some r → l[i + 1]? = some s → r.conflict = true ∨ s.conflict = true
  | _, [], _, _, _, _, h, _ => by simp at h
  | _, [_], 0, _, _, _, _, h => by simp at h
  | _, a :: b :: l, 0, r, s, h, h1, h2 => by
    simp at h1 h2; subst h1 h2
    exact h.2.1
  | _, a :: l, i + 1, r, s, h, h1, h2 => alter_get a.conflict l i r s h.2 (by simpa using h1) (by simpa using h2)

/-- Each region with a conflict is a gap's; each gap that has lines has one. -/
theorem regRun_conflict {rows : List (List Bool)} {inn out : List Nat} : ∀ (m : Nat), (∀ r ∈ (regRun rows inn out m).1, r.conflict = true → ∃ k, (out.filter fun i => gapN rows inn i == k) ≠ [] ∧ r.sides = classesL rows (out.filter fun i => gapN rows inn i == k)) ∧
    (∀ k, k < m → (out.filter fun i => gapN rows inn i == k) ≠ [] → ∃ r ∈ (regRun rows inn out m).1, r.conflict = true)
  | 0 => ⟨by simp [regRun], fun k hk => by omega⟩
  | m + 1 => by
    obtain ⟨h1, h2⟩ := regRun_conflict (rows := rows) (inn := inn) (out := out) m
    rw [regRun_succ]
    generalize regRun rows inn out m = c at h1 h2
    obtain ⟨regs, run⟩ := c
    dsimp only at h1 h2
    have hfst : (regStep rows inn out (regs, run) m).1 = if (out.filter fun i => gapN rows inn i == m) = [] then regs else ((if run = [] then regs else regs ++ [⟨false, run, []⟩]) ++ [⟨true, [], classesL rows (out.filter fun i => gapN rows inn i == m)⟩]) := by
      unfold regStep
      dsimp only
      by_cases hge : (out.filter fun i => gapN rows inn i == m) = []
      · simp only [hge, if_true]; cases inn[m]? <;> rfl
      · simp only [hge, if_false]; cases inn[m]? <;> rfl
    rw [hfst]
    by_cases hge : (out.filter fun i => gapN rows inn i == m) = []
    · rw [if_pos hge]
      refine ⟨h1, fun k hk hne => ?_⟩
      by_cases hkm : k = m
      · subst hkm; exact absurd hge hne
      · exact h2 k (by omega) hne
    · rw [if_neg hge]
      refine ⟨fun r hr hcf => ?_, fun k hk hne => ?_⟩
      · rcases List.mem_append.1 hr with h | h
        · by_cases hrun : run = []
          · rw [if_pos hrun] at h; exact h1 r h hcf
          · rw [if_neg hrun] at h
            rcases List.mem_append.1 h with h | h
            · exact h1 r h hcf
            · obtain rfl := List.mem_singleton.1 h; cases hcf
        · obtain rfl := List.mem_singleton.1 h
          exact ⟨m, hge, rfl⟩
      · exact ⟨_, List.mem_append_right _ (List.mem_singleton.2 rfl), rfl⟩

theorem regionsL_conflict {rows : List (List Bool)} {living : List Nat} : (∀ r ∈ regionsL rows living, r.conflict = true → ∃ k, r.sides = classesL rows ((outL rows living living).filter fun i => gapN rows (sortB rows (inL rows living living)) i == k)) ∧
    ((∃ r ∈ regionsL rows living, r.conflict = true) ↔ outL rows living living ≠ []) := by
  obtain ⟨h1, h2⟩ := regRun_conflict (rows := rows) (inn := sortB rows (inL rows living living)) (out := outL rows living living) ((sortB rows (inL rows living living)).length + 1)
  unfold regionsL
  generalize hc : regRun rows (sortB rows (inL rows living living)) (outL rows living living) ((sortB rows (inL rows living living)).length + 1) = c at h1 h2
  have hmem : ∀ r, r ∈ regEnd c → r.conflict = true → r ∈ c.1 := by
    intro r hr hcf
    unfold regEnd at hr
    split at hr
    · exact hr
    · rcases List.mem_append.1 hr with h | h
      · exact h
      · obtain rfl := List.mem_singleton.1 h; cases hcf
  refine ⟨fun r hr hcf => ?_, fun ⟨r, hr, hcf⟩ => ?_, fun hne => ?_⟩
  · obtain ⟨k, _, hk⟩ := h1 r (hmem r hr hcf) hcf
    exact ⟨k, hk⟩
  · obtain ⟨k, hk, _⟩ := h1 r (hmem r hr hcf) hcf
    intro e
    rw [e] at hk
    exact hk rfl
  · obtain ⟨x, hx⟩ := List.exists_mem_of_ne_nil _ hne
    obtain ⟨r, hr, hcf⟩ := h2 (gapN rows (sortB rows (inL rows living living)) x) (by have : gapN rows (sortB rows (inL rows living living)) x ≤ (sortB rows (inL rows living living)).length := List.length_filter_le _ _; omega)
      (by intro e; have : x ∈ (outL rows living living).filter fun i => gapN rows (sortB rows (inL rows living living)) i == gapN rows (sortB rows (inL rows living living)) x := List.mem_filter.2 ⟨hx, by simp⟩; rw [e] at this; cases this)
    refine ⟨r, ?_, hcf⟩
    unfold regEnd
    split
    · exact hr
    · exact List.mem_append_left _ hr

/-- P23.5: each line of a region with a conflict has another one in it, neither of which is before the other one. -/
theorem gap_apart {n : Nat} {rows : List (List Bool)} {living : List Nat} (h : Lv n rows living) {k u : Nat} (hu : u ∈ (outL rows living living).filter fun i => gapN rows (sortB rows (inL rows living living)) i == k) :
    ∃ v ∈ (outL rows living living).filter fun i => gapN rows (sortB rows (inL rows living living)) i == k, u ≠ v ∧ relat rows u v = false := by
  obtain ⟨huo, huk⟩ := List.mem_filter.1 hu
  simp only [beq_iff_eq] at huk
  obtain ⟨hul, v, hvl, huv, hrel⟩ := mem_outL.1 huo
  have hvo : v ∈ outL rows living living := mem_outL.2 ⟨hvl, u, hul, fun e => huv e.symm, by rw [relat_symm]; exact hrel⟩
  refine ⟨v, List.mem_filter.2 ⟨hvo, ?_⟩, huv, hrel⟩
  have hin : ∀ i, i ∈ sortB rows (inL rows living living) ↔ i ∈ inL rows living living := fun i => (sortB_perm _ _).mem_iff
  have hlt : ∀ i ∈ sortB rows (inL rows living living), i < n := fun i hi => h.lt i (mem_inL.1 ((hin i).1 hi)).1
  have hpre := fun u hu => gap_prefix h.t (sortB rows (inL rows living living)) u h.inn hlt hu
  have hne : ∀ s u, s ∈ sortB rows (inL rows living living) → u ∈ outL rows living living → s ≠ u := by
    intro s u hs hu e
    subst e
    obtain ⟨_, j, hj, h1, h2⟩ := mem_outL.1 hu
    have := (mem_inL.1 ((hin _).1 hs)).2 j hj h1
    rw [h2] at this; cases this
  have hrl : ∀ s u, s ∈ sortB rows (inL rows living living) → u ∈ outL rows living living → bef rows s u = true ∨ bef rows u s = true := fun s u hs hu => h.rel ((hin s).1 hs) (mem_outL.1 hu).1 (hne s u hs hu)
  have step : ∀ a b, a ∈ outL rows living living → b ∈ outL rows living living → relat rows a b = false → ¬ gapN rows (sortB rows (inL rows living living)) a < gapN rows (sortB rows (inL rows living living)) b := by
    intro a b ha hb hr hlt2
    have han := h.lt a (mem_outL.1 ha).1
    have hbn := h.lt b (mem_outL.1 hb).1
    have hk : gapN rows (sortB rows (inL rows living living)) a < (sortB rows (inL rows living living)).length := by
      have : gapN rows (sortB rows (inL rows living living)) b ≤ (sortB rows (inL rows living living)).length := List.length_filter_le _ _
      omega
    have e := List.getElem?_eq_getElem hk
    have hs := List.getElem_mem hk
    generalize (sortB rows (inL rows living living))[gapN rows (sortB rows (inL rows living living)) a] = s at e hs
    have h1 := (hpre b hbn _ _ e).2 hlt2
    have h2 : bef rows s a = false := by
      cases hb2 : bef rows s a with
      | false => rfl
      | true => have := (hpre a han _ _ e).1 hb2; omega
    have h3 : bef rows a s = true := by
      rcases hrl s a hs ha with h4 | h4
      · rw [h2] at h4; cases h4
      · exact h4
    have h5 := bef_trans h.t han (hlt s hs) hbn h3 h1
    unfold relat at hr
    rw [h5] at hr; cases hr
  have h1 := step u v huo hvo hrel
  have h2 := step v u hvo huo (by rw [relat_symm]; exact hrel)
  simp only [beq_iff_eq]
  omega
end Go.Proofs.Lg

namespace Go.Proofs.Lg
open Go Go.RowKit Go.Shelf

/-- The consumer's blocks: its box, and the row that the box leads to. -/
def ownB (B : Nat) (W : World) (k : Nat) : Prop := k = B ∨ ∃ (v : Value) (t : TypeId) (f : Nat × Nat), W.heap[B]? = some (.cells #[v] t f) ∧ v.ownBlock = some k

def PlainC : Obj → Prop
  | .cells .. => True
  | .map _ _ => True
  | _ => False

structure KeepsR (n₀ B : Nat) (W W' : World) : Prop where
  os : W'.os = W.os
  tape : W'.tape = W.tape
  output : W'.output = W.output
  size : W.heap.size ≤ W'.heap.size
  old : ∀ k, k < n₀ → ¬ ownB B W k → W'.heap[k]? = W.heap[k]?
  block : ∀ (k : Nat) (o : Obj), W.heap[k]? = some o → PlainC o → ¬ ownB B W k → W'.heap[k]? = some o
  own : ∀ k, ownB B W' k → ownB B W k ∨ (W.heap.size ≤ k ∧ n₀ ≤ k)

theorem ownB_same {B k : Nat} {W W' : World} (h : W'.heap[B]? = W.heap[B]?) : ownB B W' k ↔ ownB B W k := by unfold ownB; rw [h]

theorem ownB_nil {B k : Nat} {W : World} {t : TypeId} {f : Nat × Nat} (h : W.heap[B]? = some (.cells #[.slice none 0 0] t f)) (hk : ownB B W k) : k = B := by
  rcases hk with rfl | ⟨v, t', f', h', hv⟩
  · rfl
  · rw [h] at h'
    injection h' with h'
    injection h' with h1 h2 h3
    have : v = .slice none 0 0 := by
      have := congrArg (fun (a : Array Value) => a[0]?) h1
      simpa using this.symm
    subst this
    cases hv

theorem KeepsR.refl (n₀ B : Nat) (W : World) : KeepsR n₀ B W W := ⟨rfl, rfl, rfl, Nat.le_refl _, fun _ _ _ => rfl, fun _ _ h _ _ => h, fun _ h => .inl h⟩

theorem KeepsR.trans {n₀ B : Nat} {A C D : World} (h : KeepsR n₀ B A C) (k : KeepsR n₀ B C D) : KeepsR n₀ B A D := by
  refine ⟨k.os.trans h.os, k.tape.trans h.tape, k.output.trans h.output, Nat.le_trans h.size k.size, fun j hj ho => ?_, fun j o hj hp ho => ?_, fun j hj => ?_⟩
  · refine (k.old j hj fun hc => ?_).trans (h.old j hj ho)
    rcases h.own j hc with h1 | h1
    · exact ho h1
    · omega
  · refine k.block j o (h.block j o hj hp ho) hp fun hc => ?_
    rcases h.own j hc with h1 | h1
    · exact ho h1
    · have := (Array.getElem?_eq_some_iff.1 hj).1; omega
  · rcases k.own j hj with h1 | h1
    · exact h.own j h1
    · have := h.size; exact .inr ⟨by omega, h1.2⟩

theorem KeepsR.of_below {n₀ B : Nat} {A C : World} (hn : n₀ ≤ A.heap.size) (hB : B < A.heap.size) (h : Below A.heap.size A C) : KeepsR n₀ B A C :=
  ⟨h.os, h.tape, h.output, h.size, fun k hk _ => h.block k (Nat.lt_of_lt_of_le hk hn), fun k _ hk _ _ => (h.block k (Array.getElem?_eq_some_iff.1 hk).1).trans hk,
    fun _ hk => .inl ((ownB_same (h.block B hB)).1 hk)⟩

theorem KeepsR.grown {n₀ B : Nat} {A C C' : World} {row : Option Nat} (h : KeepsR n₀ B A C) (g : C.grownBy C' row) (hr : ∀ r, row = some r → A.heap.size ≤ r) (hn : n₀ ≤ A.heap.size) (hB : B < A.heap.size) : KeepsR n₀ B A C' := by
  have hs := h.size
  refine ⟨g.os.trans h.os, g.tape.trans h.tape, g.output.trans h.output, Nat.le_trans h.size g.size, fun k hk ho => ?_, fun k o hk hp ho => ?_, fun k hk => ?_⟩
  · exact (g.block k (by omega) fun e => by have := hr k e.symm; omega).trans (h.old k hk ho)
  · have hkl := (Array.getElem?_eq_some_iff.1 hk).1
    exact (g.block k (by omega) fun e => by have := hr k e.symm; omega).trans (h.block k o hk hp ho)
  · exact h.own k ((ownB_same (g.block B (by omega) fun e => by have := hr B e.symm; omega)).1 hk)

theorem KeepsR.putObj {n₀ B : Nat} {A : World} {l : Nat} {o o' : Obj} (hl : n₀ ≤ l) (hB : B ≠ l) (h : A.heap[l]? = some o) (h1 : o.isCells = false) (h2 : o.isWalk = false) : KeepsR n₀ B A (A.putObj l o') := by
  have g := grownBy_putObj' A l o'
  have hlt := (Array.getElem?_eq_some_iff.1 h).1
  refine ⟨g.os, g.tape, g.output, g.size, fun k hk _ => World.putObj_heap_other (by omega), fun k o1 hk hp _ => ?_, fun k hk => .inl ((ownB_same (World.putObj_heap_other hB)).1 hk)⟩
  by_cases hkl : k = l
  · subst hkl
    rw [h] at hk
    cases hk
    cases o <;> simp_all [PlainC, Obj.isCells, Obj.isWalk]
  · exact (World.putObj_heap_other hkl).trans hk

/-- The consumer appends one element to its row and lays the row into its box. -/
theorem KeepsR.appended {n₀ B : Nat} {W w1 : World} {t : TypeId} {v v' : Value} (hv : Boxed W B t v) (hn : n₀ ≤ W.heap.size) (hne : some B ≠ v.ownBlock) (hg : W.grownBy w1 v.ownBlock) (hat : v'.ownBlock = v.ownBlock ∨ ∀ g, v'.ownBlock = some g → W.heap.size ≤ g) :
    KeepsR n₀ B W (w1.setCell ⟨B, 0, none⟩ v') := by
  have hown : ∀ k, v.ownBlock = some k → ownB B W k := fun k e => .inr ⟨v, t, _, hv, e⟩
  have hg2 := grownBy_setCell' w1 B v'
  have hb1 : Boxed w1 B t v := hv.kept hg hne
  have hb2 : Boxed (w1.setCell ⟨B, 0, none⟩ v') B t v' := hb1.set v'
  have hkeep : ∀ k, k < W.heap.size → ¬ ownB B W k → (w1.setCell ⟨B, 0, none⟩ v').heap[k]? = W.heap[k]? := fun k hk ho =>
    (Below.heap_setCell _ _ _ _ (fun e => ho (.inl e))).trans (hg.block k hk fun e => ho (hown k e.symm))
  refine ⟨hg2.os.trans hg.os, hg2.tape.trans hg.tape, hg2.output.trans hg.output, Nat.le_trans hg.size hg2.size, fun k hk ho => hkeep k (by omega) ho, fun k o hk _ ho => (hkeep k (Array.getElem?_eq_some_iff.1 hk).1 ho).trans hk, fun k hk => ?_⟩
  rcases hk with rfl | ⟨u, t', f', h', hu⟩
  · exact .inl (.inl rfl)
  · rw [show (w1.setCell ⟨B, 0, none⟩ v').heap[B]? = _ from hb2] at h'
    injection h' with h'
    injection h' with e1 _ _
    have : u = v' := by
      have := congrArg (fun (a : Array Value) => a[0]?) e1
      simpa using this.symm
    subst this
    rcases hat with e | e
    · exact .inl (hown k (by rw [← e]; exact hu))
    · have := e k hu; exact .inr ⟨this, by omega⟩

theorem ownsRow_keepsR {n₀ B : Nat} {W W' : World} {base e size n : Nat} {v : Value} {xs : List Value} (h : W.ownsRow base e size v n xs) (hk : KeepsR n₀ B W W') (ho : ∀ k, ownB B W k → k < base) : W'.ownsRow base e size v n xs := by
  refine ⟨h.1, ?_⟩
  rcases h.2 with h2 | ⟨g, cap, cur, hv, hb, hg, h3⟩
  · exact .inl h2
  · exact .inr ⟨g, cap, cur, hv, hb, hk.block g _ hg trivial (fun hc => by have := ho g hc; omega), h3⟩

theorem KeepsR.cell {n₀ B : Nat} {W W' : World} (hk : KeepsR n₀ B W W') {p : Addr} {u : Value} (hp : p.block < n₀) (ho : ¬ ownB B W p.block) (hc : W.cell? p = some u) : W'.cell? p = some u :=
  (World.cell?_of_block (w := W) (hk.old _ hp ho)).trans hc

/-! ### Regions of few lines -/

def Small (r : Reg) : Prop := r.sides.length ≤ 2000000 ∧ r.lines.length + r.sides.flatten.length ≤ 2000000
def RegOk (W : World) (v : Value) (r : Reg) : Prop := RegAt W v r ∧ Small r

theorem small_settled {l : List Nat} (h : l.length ≤ 2000000) : Small ⟨false, l, []⟩ := ⟨by simp, by simpa using h⟩

theorem arrL_len (rows : List (List Bool)) (l : List Nat) : (arrL rows l).length = l.length := by
  unfold arrL; rw [arrN_length rows _ _ rfl, sortI_length]

theorem classesS_flat (rows : List (List Bool)) (l : List Nat) : ∀ (t : List Nat) (c : List (List Nat) × List Nat), (∀ j ∈ t, j ∈ l) → c.1.flatten.length = c.2.length → (t.foldl (cstep rows l) c).1.flatten.length = (t.foldl (cstep rows l) c).2.length
  | [], _, _, h => h
  | j :: t, c, ht, h => by
    rw [List.foldl_cons]
    refine classesS_flat rows l t _ (fun x hx => ht x (List.mem_cons_of_mem _ hx)) ?_
    unfold cstep
    by_cases hc : c.2.contains j = true
    · rw [if_pos hc]; exact h
    · rw [if_neg hc]
      have hv := (visit_ok rows l l.length c.2 j (ht j List.mem_cons_self) (by simpa using hc)).len
      rw [List.flatten_append, List.length_append, List.flatten_singleton, arrL_len, h]
      dsimp only
      omega

theorem small_contested (rows : List (List Bool)) {g : List Nat} (h : g.length ≤ 2000000) : Small ⟨true, [], classesL rows g⟩ := by
  have h1 := classesS_ok rows g g ([], []) (fun _ h => h) (by have := unseen_le g []; simpa using this) (Nat.le_refl _)
  have h2 := classesS_flat rows g g ([], []) (fun _ h => h) rfl
  unfold Small classesL classesS
  simp only [List.length_nil, Nat.zero_add]
  omega
end Go.Proofs.Lg

namespace Go.Proofs.Lg
open Go

def Gr.liv (g : Gr) (i : Nat) : Bool := (g.lines[i]?.map (·.living)).getD false
def Gr.okP (g : Gr) (i j : Nat) : Bool := (!g.liv i || !g.liv j) || (g.before i j || g.before j i)
def Gr.certJ (g : Gr) (i m : Nat) : Bool := (List.range m).all (g.okP i)
def Gr.certK (g : Gr) (k : Nat) : Bool := (List.range k).all fun i => g.certJ i i
theorem Gr.certJ_succ (g : Gr) (i m : Nat) : g.certJ i (m + 1) = (g.certJ i m && g.okP i m) := by simp [Gr.certJ, List.range_succ]
theorem Gr.certK_succ (g : Gr) (k : Nat) : g.certK (k + 1) = (g.certK k && g.certJ k k) := by simp [Gr.certK, List.range_succ]

theorem Gr.mem_living {g : Gr} (h : g.check = 0) (i : Nat) : i ∈ g.living ↔ i < g.lines.length ∧ g.liv i = true := by
  unfold Gr.living Gr.liv
  rw [if_pos h]
  unfold livL
  rw [livFrom_mem]
  simp only [Nat.zero_le, true_and, Nat.sub_zero]
  constructor
  · rintro ⟨x, hx, hl⟩
    exact ⟨(List.getElem?_eq_some_iff.1 hx).1, by rw [hx]; exact hl⟩
  · rintro ⟨hi, hl⟩
    rw [List.getElem?_eq_getElem hi] at hl
    exact ⟨_, List.getElem?_eq_getElem hi, hl⟩

theorem Gr.before_relat {g : Gr} (h : g.check = 0) {i j : Nat} (hi : i < g.lines.length) (hj : j < g.lines.length) : (g.before i j || g.before j i) = relat g.reach i j := by
  rw [Gr.before_bef h hi hj, Gr.before_bef h hj hi]; rfl

theorem Gr.cert_iff {g : Gr} (h : g.check = 0) : g.certK g.lines.length = !((regionsL g.reach g.living).any (·.conflict)) := by
  have hc := (regionsL_conflict (rows := g.reach) (living := g.living)).2
  have h1 : ((regionsL g.reach g.living).any (·.conflict)) = true ↔ outL g.reach g.living g.living ≠ [] := by
    rw [List.any_eq_true]; exact hc
  have h2 : g.certK g.lines.length = true ↔ outL g.reach g.living g.living = [] := by
    unfold Gr.certK Gr.certJ
    rw [List.all_eq_true]
    constructor
    · intro hall
      rw [List.eq_nil_iff_forall_not_mem]
      intro u hu
      obtain ⟨hul, v, hvl, huv, hrel⟩ := mem_outL.1 hu
      obtain ⟨hun, hlu⟩ := (Gr.mem_living h u).1 hul
      obtain ⟨hvn, hlv⟩ := (Gr.mem_living h v).1 hvl
      rcases Nat.lt_or_ge v u with hlt | hge
      · have := List.all_eq_true.1 (hall u (List.mem_range.2 hun)) v (List.mem_range.2 hlt)
        unfold Gr.okP at this
        rw [hlu, hlv, Gr.before_relat h hun hvn, hrel] at this
        cases this
      · have hlt : u < v := by omega
        have := List.all_eq_true.1 (hall v (List.mem_range.2 hvn)) u (List.mem_range.2 hlt)
        unfold Gr.okP at this
        rw [hlu, hlv, Gr.before_relat h hvn hun, relat_symm, hrel] at this
        cases this
    · intro he i hi
      rw [List.all_eq_true]
      intro j hj
      have hi := List.mem_range.1 hi
      have hj := List.mem_range.1 hj
      unfold Gr.okP
      cases hli : g.liv i with
      | false => rfl
      | true =>
        cases hlj : g.liv j with
        | false => rfl
        | true =>
          have hjn : j < g.lines.length := by omega
          rw [Gr.before_relat h hi hjn]
          cases hr : relat g.reach i j with
          | true => rfl
          | false =>
            have : i ∈ outL g.reach g.living g.living := mem_outL.2 ⟨(Gr.mem_living h i).2 ⟨hi, hli⟩, j, (Gr.mem_living h j).2 ⟨hjn, hlj⟩, by omega, hr⟩
            rw [he] at this; cases this
  cases hK : g.certK g.lines.length <;> cases hA : (regionsL g.reach g.living).any (·.conflict)
  · have := h2.2 (Classical.byContradiction fun hne => by have := h1.2 hne; rw [hA] at this; cases this)
    rw [hK] at this; cases this
  · rfl
  · rfl
  · exact absurd (h2.1 hK) (h1.1 hA)

/-- What each region of a graph's regions is. -/
def RegsGood (regs : List Reg) : Prop := (∀ r ∈ regs, GoodReg r ∧ Small r) ∧ Alter true regs

theorem len_le_flatten : ∀ l : List (List Nat), (∀ s ∈ l, s ≠ []) → l.length ≤ l.flatten.length
  | [], _ => Nat.le_refl _
  | s :: l, h => by
    have h1 := len_le_flatten l fun t ht => h t (List.mem_cons_of_mem _ ht)
    have h2 := List.length_pos_iff.2 (h s List.mem_cons_self)
    simp only [List.flatten_cons, List.length_append, List.length_cons]
    omega

theorem GoodReg.all_ne {r : Reg} (h : GoodReg r) : r.all ≠ [] := by
  unfold Reg.all
  rcases h with ⟨_, h1, _⟩ | ⟨_, _, h1, h2⟩
  · simp [h1]
  · obtain ⟨s, l, hs⟩ : ∃ s l, r.sides = s :: l := by cases hr : r.sides with | nil => exact absurd hr h1 | cons s l => exact ⟨s, l, rfl⟩
    have := h2 s (by rw [hs]; simp)
    rw [hs]; simp [this]

theorem all_le_seq : ∀ (regs : List Reg) (r : Reg), r ∈ regs → r.all.length ≤ (regs.flatMap Reg.all).length
  | [], _, h => by cases h
  | a :: l, r, h => by
    rw [List.flatMap_cons, List.length_append]
    rcases List.mem_cons.1 h with rfl | h
    · omega
    · have := all_le_seq l r h; omega

theorem regs_le_seq : ∀ (regs : List Reg), (∀ r ∈ regs, GoodReg r) → regs.length ≤ (regs.flatMap Reg.all).length
  | [], _ => Nat.le_refl _
  | a :: l, h => by
    have h1 := regs_le_seq l fun r hr => h r (List.mem_cons_of_mem _ hr)
    have h2 := List.length_pos_iff.2 (h a List.mem_cons_self).all_ne
    rw [List.flatMap_cons, List.length_append, List.length_cons]
    omega

theorem Gr.seq_le (g : Gr) : (seqL g.reach g.living).length ≤ g.lines.length := by
  rw [(seqL_perm g.lv).length_eq]; exact g.living_len

theorem regsGood (g : Gr) (h : g.lines.length ≤ 1000000) : RegsGood (regionsL g.reach g.living) := by
  obtain ⟨h1, h2⟩ := regionsL_good g.lv
  refine ⟨fun r hr => ⟨h1 r hr, ?_⟩, h2⟩
  have h3 := all_le_seq _ r hr
  have h4 := g.seq_le
  unfold seqL at h4
  have h5 : r.all.length ≤ 1000000 := by omega
  unfold Reg.all at h5
  rw [List.length_append] at h5
  refine ⟨?_, by omega⟩
  rcases h1 r hr with ⟨_, _, hs⟩ | ⟨_, _, _, hs⟩
  · rw [hs]; simp
  · have := len_le_flatten r.sides hs; omega

theorem regs_len (g : Gr) (h : g.lines.length ≤ 1000000) : (regionsL g.reach g.living).length ≤ 1000000 := by
  have h1 := regs_le_seq _ (regionsL_good g.lv).1
  have h4 := g.seq_le
  unfold seqL at h4
  omega
end Go.Proofs.Lg

namespace Go.Proofs.Lg

/-- A path whose inner lines are below k. -/
inductive PathB (E : Nat → Nat → Prop) (k : Nat) (i : Nat) : Nat → Prop
  | edge {j : Nat} : E i j → PathB E k i j
  | step {m j : Nat} : PathB E k i m → m < k → E m j → PathB E k i j

theorem PathB.mono {E : Nat → Nat → Prop} {k k' i j : Nat} (h : PathB E k i j) (hk : k ≤ k') : PathB E k' i j := by
  induction h with
  | edge h => exact .edge h
  | step _ h2 h3 ih => exact .step ih (by omega) h3

theorem PathB.trans {E : Nat → Nat → Prop} {k i m j : Nat} (h : PathB E k i m) (hm : m < k) (h2 : PathB E k m j) : PathB E k i j := by
  induction h2 with
  | edge h3 => exact .step h hm h3
  | step _ h4 h5 ih => exact .step ih h4 h5

theorem PathB.split {E : Nat → Nat → Prop} {k i j : Nat} (h : PathB E (k + 1) i j) : PathB E k i j ∨ (PathB E k i k ∧ PathB E k k j) := by
  induction h with
  | edge h => exact .inl (.edge h)
  | step h1 h2 h3 ih =>
    rename_i m j
    by_cases hm : m = k
    · subst hm
      rcases ih with h | ⟨h, _⟩
      · exact .inr ⟨h, .edge h3⟩
      · exact .inr ⟨h, .edge h3⟩
    · rcases ih with h | ⟨h, h'⟩
      · exact .inl (.step h (by omega) h3)
      · exact .inr ⟨h, .step h' (by omega) h3⟩

def putR (rows : List (List Bool)) (i j : Nat) (b : Bool) : List (List Bool) := rows.set i ((rows.getD i []).set j b)

theorem rel_putR {n : Nat} {rows : List (List Bool)} (hq : Sq n rows) {i j : Nat} (hi : i < n) (hj : j < n) (b : Bool) (x y : Nat) : rel (putR rows i j b) x y = if x = i ∧ y = j then b else rel rows x y := by
  have hil : i < rows.length := by rw [hq.1]; exact hi
  have hrow : (rows.getD i []).length = n := by rw [List.getD_eq_getElem?_getD, List.getElem?_eq_getElem hil]; exact hq.2 _ (List.getElem_mem _)
  unfold rel putR
  simp only [List.getD_eq_getElem?_getD, List.getElem?_set] at hrow ⊢
  by_cases hx : x = i
  · subst hx
    by_cases hy : y = j
    · subst hy
      simp [hil, List.getElem?_set]
      simp [List.getElem?_eq_getElem hil] at hrow
      simp [hrow, hj]
    · have hy' : ¬ j = y := fun e => hy e.symm
      simp [hil, hy, hy']
  · have hx' : ¬ i = x := fun e => hx e.symm
    simp [hx, hx']

theorem sq_putR {n : Nat} {rows : List (List Bool)} (hq : Sq n rows) {i j : Nat} (hi : i < n) (b : Bool) : Sq n (putR rows i j b) := by
  have hil : i < rows.length := by rw [hq.1]; exact hi
  refine ⟨by unfold putR; rw [List.length_set]; exact hq.1, fun r hr => ?_⟩
  unfold putR at hr
  rcases List.mem_or_eq_of_mem_set hr with h | h
  · exact hq.2 r h
  · rw [h, List.length_set, List.getD_eq_getElem?_getD, List.getElem?_eq_getElem hil]; exact hq.2 _ (List.getElem_mem _)

/-- What holds of the table all the time: true entries are paths; it only grows. -/
structure WInv (E : Nat → Nat → Prop) (n : Nat) (R₀ R : List (List Bool)) : Prop where
  sq : Sq n R
  sound : ∀ i j, i < n → j < n → rel R i j = true → PathB E n i j
  grow : ∀ i j, rel R₀ i j = true → rel R i j = true

def wput (R : List (List Bool)) (k i j : Nat) : List (List Bool) := putR R i j (rel R i j || (rel R i k && rel R k j))
def warJ (k i : Nat) (R : List (List Bool)) (m : Nat) : List (List Bool) := (List.range m).foldl (fun R j => wput R k i j) R
def warI (n k : Nat) (R : List (List Bool)) (m : Nat) : List (List Bool) := (List.range m).foldl (fun R i => warJ k i R n) R
def war (n : Nat) (R : List (List Bool)) (m : Nat) : List (List Bool) := (List.range m).foldl (fun R k => warI n k R n) R

theorem wput_inv {E : Nat → Nat → Prop} {n k i j : Nat} {R₀ R : List (List Bool)} (h : WInv E n R₀ R) (hk : k < n) (hi : i < n) (hj : j < n) :
    WInv E n R₀ (wput R k i j) ∧ (∀ x y, rel R x y = true → rel (wput R k i j) x y = true) ∧ ((rel R i j || (rel R i k && rel R k j)) = true → rel (wput R k i j) i j = true) := by
  have hg : ∀ x y, rel R x y = true → rel (wput R k i j) x y = true := fun x y hxy => by
    unfold wput
    rw [rel_putR h.sq hi hj]
    split
    · rename_i hh; obtain ⟨rfl, rfl⟩ := hh; simp [hxy]
    · exact hxy
  refine ⟨⟨sq_putR h.sq hi _, fun x y hx hy hxy => ?_, fun x y hxy => hg x y (h.grow x y hxy)⟩, hg, fun hh => ?_⟩
  · unfold wput at hxy
    rw [rel_putR h.sq hi hj] at hxy
    split at hxy
    · rename_i hh
      obtain ⟨rfl, rfl⟩ := hh
      simp only [Bool.or_eq_true, Bool.and_eq_true] at hxy
      rcases hxy with h1 | ⟨h1, h2⟩
      · exact h.sound _ _ hx hy h1
      · exact (h.sound _ _ hx hk h1).trans hk (h.sound _ _ hk hy h2)
    · exact h.sound x y hx hy hxy
  · unfold wput
    rw [rel_putR h.sq hi hj]
    simp [hh]

theorem warJ_succ (k i : Nat) (R : List (List Bool)) (m : Nat) : warJ k i R (m + 1) = wput (warJ k i R m) k i m := by unfold warJ; rw [List.range_succ, List.foldl_append]; rfl
theorem warI_succ (n k : Nat) (R : List (List Bool)) (m : Nat) : warI n k R (m + 1) = warJ k m (warI n k R m) n := by unfold warI; rw [List.range_succ, List.foldl_append]; rfl
theorem war_succ (n : Nat) (R : List (List Bool)) (m : Nat) : war n R (m + 1) = warI n m (war n R m) n := by unfold war; rw [List.range_succ, List.foldl_append]; rfl

theorem warJ_inv {E : Nat → Nat → Prop} {n k i : Nat} {R : List (List Bool)} (h : WInv E n R R) (hk : k < n) (hi : i < n) : ∀ m, m ≤ n → WInv E n R (warJ k i R m) ∧ ∀ j, j < m → (rel R i j || (rel R i k && rel R k j)) = true → rel (warJ k i R m) i j = true
  | 0, _ => ⟨h, fun j hj => by omega⟩
  | m + 1, hm => by
    obtain ⟨h1, h2⟩ := warJ_inv h hk hi m (by omega)
    obtain ⟨k1, k2, k3⟩ := wput_inv h1 hk hi (show m < n by omega)
    rw [warJ_succ]
    refine ⟨k1, fun j hj hh => ?_⟩
    by_cases hjm : j = m
    · subst hjm
      refine k3 ?_
      simp only [Bool.or_eq_true, Bool.and_eq_true] at hh ⊢
      rcases hh with a | ⟨a, b⟩
      · exact .inl (h1.grow _ _ a)
      · exact .inr ⟨h1.grow _ _ a, h1.grow _ _ b⟩
    · exact k2 _ _ (h2 j (by omega) hh)

theorem warI_inv {E : Nat → Nat → Prop} {n k : Nat} {R : List (List Bool)} (h : WInv E n R R) (hk : k < n) : ∀ m, m ≤ n → WInv E n R (warI n k R m) ∧ ∀ i, i < m → ∀ j, j < n → (rel R i j || (rel R i k && rel R k j)) = true → rel (warI n k R m) i j = true
  | 0, _ => ⟨h, fun j hj => by omega⟩
  | m + 1, hm => by
    obtain ⟨h1, h2⟩ := warI_inv h hk m (by omega)
    obtain ⟨k1, k2⟩ := warJ_inv (i := m) (R := warI n k R m) ⟨h1.sq, h1.sound, fun _ _ h => h⟩ hk (by omega) n (Nat.le_refl _)
    rw [warI_succ]
    refine ⟨⟨k1.sq, k1.sound, fun i j hij => k1.grow _ _ (h1.grow _ _ hij)⟩, fun i hi j hj hh => ?_⟩
    by_cases him : i = m
    · subst him
      refine k2 j hj ?_
      simp only [Bool.or_eq_true, Bool.and_eq_true] at hh ⊢
      rcases hh with a | ⟨a, b⟩
      · exact .inl (h1.grow _ _ a)
      · exact .inr ⟨h1.grow _ _ a, h1.grow _ _ b⟩
    · exact k1.grow _ _ (h2 i (by omega) j hj hh)

theorem war_inv {E : Nat → Nat → Prop} {n : Nat} {R : List (List Bool)} (h : WInv E n R R) (h0 : ∀ i j, i < n → j < n → E i j → rel R i j = true) : ∀ m, m ≤ n → WInv E n R (war n R m) ∧ ∀ i j, i < n → j < n → PathB E m i j → rel (war n R m) i j = true
  | 0, _ => ⟨h, fun i j hi hj hp => by
      cases hp with
      | edge he => exact h0 i j hi hj he
      | step _ h2 _ => omega⟩
  | m + 1, hm => by
    obtain ⟨h1, h2⟩ := war_inv h h0 m (by omega)
    obtain ⟨k1, k2⟩ := warI_inv (k := m) (R := war n R m) ⟨h1.sq, h1.sound, fun _ _ h => h⟩ (by omega) n (Nat.le_refl _)
    rw [war_succ]
    refine ⟨⟨k1.sq, k1.sound, fun i j hij => k1.grow _ _ (h1.grow _ _ hij)⟩, fun i j hi hj hp => k2 i hi j hj ?_⟩
    simp only [Bool.or_eq_true, Bool.and_eq_true]
    rcases hp.split with a | ⟨a, b⟩
    · exact .inl (h2 i j hi hj a)
    · exact .inr ⟨h2 i m hi (by omega) a, h2 m j (by omega) hj b⟩
end Go.Proofs.Lg
