/-
  Part P1 of this claim's proof. Joined by merge.py from the texts of wip/tpl.
-/
import Derived.Test.YtclholnhkhjjaaaGreatGAP
set_option linter.unusedVariables false
set_option linter.unusedSimpArgs false
set_option linter.unnecessarySimpa false
namespace Go.Proofs.Lg
theorem getD_set_true (out : List Bool) (k j : Nat) (hk : k < out.length) : (out.set k true).getD j false = (decide (k = j) || out.getD j false) := by
 by_cases h : k = j
 · subst h; simp [List.getD_eq_getElem?_getD, hk]
 · simp [List.getD_eq_getElem?_getD, List.getElem?_set_ne h, h]
theorem fromF_spec (next : List (List Int)) (n : Nat) (hn : next.length = n) (hv : ∀ r ∈ next, ∀ x ∈ r, 0 ≤ x ∧ x < (n : Int)) :
   ∀ (f : Nat) (todo : List Int) (out : List Bool), out.length = n → (∀ x ∈ todo, 0 ≤ x ∧ x < (n : Int)) → pot next out + todo.length < f →
     (∀ j, out.getD j false = true → ∀ x ∈ next.getD j [], out.getD x.toNat false = true ∨ x ∈ todo) →
     (∀ j, out.getD j false = true → (fromF next f todo out).getD j false = true) ∧ (∀ x ∈ todo, (fromF next f todo out).getD x.toNat false = true) ∧
     (∀ j, (fromF next f todo out).getD j false = true → ∀ x ∈ next.getD j [], (fromF next f todo out).getD x.toNat false = true) ∧
     (∀ T : Nat → Prop, (∀ x ∈ todo, T x.toNat) → (∀ j, out.getD j false = true → T j) → (∀ j, T j → ∀ x ∈ next.getD j [], T x.toNat) → ∀ j, (fromF next f todo out).getD j false = true → T j)
 | 0, todo, out, _, _, hf, _ => absurd hf (Nat.not_lt_zero _)
 | f + 1, todo, out, ho, ht, hf, hc => by
   unfold fromF
   cases hl : todo.getLast? with
   | none =>
     have : todo = [] := List.getLast?_eq_none_iff.1 hl
     subst this
     refine ⟨fun _ h => h, fun x hx => (by cases hx), fun j hj x hx => ?_, fun T _ h2 _ j hj => h2 j hj⟩
     rcases hc j hj x hx with h | h
     · exact h
     · cases h
   | some k =>
     have hne : todo ≠ [] := by intro e; subst e; simp at hl
     have hsp : todo = todo.dropLast ++ [k] := by
       have := List.dropLast_concat_getLast hne
       rw [List.getLast?_eq_some_getLast hne] at hl
       rw [Option.some.inj hl] at this
       exact this.symm
     have hlen : todo.length = todo.dropLast.length + 1 := by rw [List.length_dropLast]; have := List.length_pos_iff.2 hne; omega
     have hkm : k ∈ todo := by rw [hsp]; simp
     have hk := ht k hkm
     have hkn : k.toNat < n := by omega
     have hmem : ∀ x, x ∈ todo → x ∈ todo.dropLast ∨ x = k := by
       intro x hx
       rw [hsp] at hx
       simpa using hx
     have hsub : ∀ x, x ∈ todo.dropLast → x ∈ todo := fun x hx => List.dropLast_subset _ hx
     dsimp only
     by_cases hb : out.getD k.toNat false = true
     · rw [if_pos hb]
       obtain ⟨h1, h2, h3, h4⟩ := fromF_spec next n hn hv f todo.dropLast out ho (fun x hx => ht x (hsub x hx)) (by omega) (fun j hj x hx => by
         rcases hc j hj x hx with h | h
         · exact .inl h
         · rcases hmem x h with h | h
           · exact .inr h
           · exact .inl (by rw [h]; exact hb))
       refine ⟨h1, fun x hx => ?_, h3, fun T t1 t2 t3 => h4 T (fun x hx => t1 x (hsub x hx)) t2 t3⟩
       rcases hmem x hx with h | h
       · exact h2 x h
       · rw [h]; exact h1 _ hb
     · rw [if_neg hb]
       have hnk : next[k.toNat]? = some (next.getD k.toNat []) := by
         rw [List.getD_eq_getElem?_getD, List.getElem?_eq_getElem (by omega)]; rfl
       have hok : out[k.toNat]? = some false := by
         have h2 : k.toNat < out.length := by omega
         rw [List.getElem?_eq_getElem h2]
         rw [List.getD_eq_getElem?_getD, List.getElem?_eq_getElem h2] at hb
         simpa using hb
       have hps := pot_set next out k.toNat _ hnk hok
       have hg : ∀ j, (out.set k.toNat true).getD j false = (decide (k.toNat = j) || out.getD j false) := fun j => getD_set_true out k.toNat j (by omega)
       have hrow : ∀ x ∈ next.getD k.toNat [], 0 ≤ x ∧ x < (n : Int) := hv _ (by rw [List.getElem?_eq_some_iff] at hnk; obtain ⟨h, e⟩ := hnk; rw [← e]; exact List.getElem_mem _)
       obtain ⟨h1, h2, h3, h4⟩ := fromF_spec next n hn hv f (todo.dropLast ++ next.getD k.toNat []) (out.set k.toNat true) (by simpa using ho) (fun x hx => by
           rcases List.mem_append.1 hx with h | h
           · exact ht x (hsub x h)
           · exact hrow x h) (by rw [List.length_append]; omega) (fun j hj x hx => by
         rw [hg] at hj ⊢
         by_cases hjk : k.toNat = j
         · subst hjk; exact .inr (List.mem_append_right _ hx)
         · rcases hc j (by simpa [hjk] using hj) x hx with h | h
           · left; simp only [Bool.or_eq_true]; exact .inr h
           · rcases hmem x h with h | h
             · exact .inr (List.mem_append_left _ h)
             · left; subst h; simp)
       refine ⟨fun j hj => h1 j (by rw [hg, hj, Bool.or_true]), fun x hx => ?_, h3, fun T t1 t2 t3 => h4 T (fun x hx => ?_) (fun j hj => ?_) t3⟩
       · rcases hmem x hx with h | h
         · exact h2 x (List.mem_append_left _ h)
         · subst h; exact h1 _ (by rw [hg]; simp)
       · rcases List.mem_append.1 hx with h | h
         · exact t1 x (hsub x h)
         · exact t3 k.toNat (t1 k hkm) x h
       · rw [hg] at hj
         by_cases hjk : k.toNat = j
         · subst hjk; exact t1 k hkm
         · exact t2 j (by simpa [hjk] using hj)
theorem getD_repl (n j : Nat) : (List.replicate n false).getD j false = false := by
 rw [List.getD_eq_getElem?_getD, List.getElem?_replicate]; split <;> rfl
theorem fromRow_spec (next : List (List Int)) (n : Nat) (hn : next.length = n) (hv : ∀ r ∈ next, ∀ x ∈ r, 0 ≤ x ∧ x < (n : Int)) (i : Nat) (hi : i < n) :
   (∀ x ∈ next.getD i [], (fromRow next i).getD x.toNat false = true) ∧ (∀ j, (fromRow next i).getD j false = true → ∀ x ∈ next.getD j [], (fromRow next i).getD x.toNat false = true) ∧
   (∀ T : Nat → Prop, (∀ x ∈ next.getD i [], T x.toNat) → (∀ j, T j → ∀ x ∈ next.getD j [], T x.toNat) → ∀ j, (fromRow next i).getD j false = true → T j) := by
 unfold fromRow
 have hrow : ∀ x ∈ next.getD i [], 0 ≤ x ∧ x < (n : Int) := by
   intro x hx
   refine hv (next.getD i []) ?_ x hx
   rw [List.getD_eq_getElem?_getD, List.getElem?_eq_getElem (by omega)]; exact List.getElem_mem _
 obtain ⟨_, h2, h3, h4⟩ := fromF_spec next n hn hv (pot next (List.replicate next.length false) + (next.getD i []).length + 1) (next.getD i []) (List.replicate next.length false) (by simpa using hn) hrow (by omega)
   (fun j hj => by rw [getD_repl] at hj; cases hj)
 exact ⟨h2, h3, fun T t1 t2 => h4 T t1 (fun j hj => by rw [getD_repl] at hj; cases hj) t2⟩
theorem rel_rows (next : List (List Int)) (n i j : Nat) (hi : i < n) : rel ((List.range n).map (fromRow next)) i j = (fromRow next i).getD j false := by
 unfold rel
 congr 1
 rw [List.getD_eq_getElem?_getD, List.getElem?_map, List.getElem?_range hi]; rfl
theorem transR_rows (next : List (List Int)) (n : Nat) (hn : next.length = n) (hv : ∀ r ∈ next, ∀ x ∈ r, 0 ≤ x ∧ x < (n : Int)) : TransR n ((List.range n).map (fromRow next)) := by
 intro i j k hi hj hk h1 h2
 rw [rel_rows _ _ _ _ hi] at h1 ⊢
 rw [rel_rows _ _ _ _ hj] at h2
 obtain ⟨a1, a2, _⟩ := fromRow_spec next n hn hv i hi
 obtain ⟨_, _, a3⟩ := fromRow_spec next n hn hv j hj
 exact a3 (fun k => (fromRow next i).getD k false = true) (fun x hx => a2 j h1 x hx) (fun j hj => a2 j hj) k h2
theorem min_exists {n : Nat} {rows : List (List Bool)} (ht : TransR n rows) : ∀ l : List Nat, (∀ i ∈ l, i < n) → l ≠ [] → ∃ m ∈ l, ∀ j ∈ l, bef rows j m = false
 | [], _, h => absurd rfl h
 | [a], _, _ => ⟨a, by simp, fun j hj => by obtain rfl := List.mem_singleton.1 hj; exact bef_irrefl _ _⟩
 | a :: b :: t, hl, _ => by
   obtain ⟨m, hm, hmin⟩ := min_exists ht (b :: t) (fun i hi => hl i (List.mem_cons_of_mem _ hi)) (by simp)
   cases h : bef rows a m with
   | false => exact ⟨m, List.mem_cons_of_mem _ hm, fun j hj => by
       rcases List.mem_cons.1 hj with rfl | hj
       · exact h
       · exact hmin j hj⟩
   | true =>
     refine ⟨a, List.mem_cons_self, fun j hj => ?_⟩
     rcases List.mem_cons.1 hj with rfl | hj
     · exact bef_irrefl _ _
     · cases h2 : bef rows j a with
       | false => rfl
       | true =>
         have := bef_trans ht (hl j (List.mem_cons_of_mem _ hj)) (hl a List.mem_cons_self) (hl m (List.mem_cons_of_mem _ hm)) h2 h
         rw [hmin j hj] at this; cases this
theorem idxF_get (p : Int → Bool) : ∀ (l : List Int) (k0 : Nat), l.any p = true → ∃ (k : Nat) (x : Int), l[k]? = some x ∧ p x = true ∧ idxF p k0 l = k0 + k ∧ ∀ k' : Nat, k' < k → ∀ y, l[k']? = some y → p y = false
 | [], _, h => by simp at h
 | x :: l, k0, h => by
   by_cases hx : p x = true
   · exact ⟨0, x, rfl, hx, by simp [idxF, hx], fun k' hk' => absurd hk' (Nat.not_lt_zero _)⟩
   · have hl : l.any p = true := by simpa [hx] using h
     obtain ⟨k, y, h1, h2, h3, h4⟩ := idxF_get p l (k0 + 1) hl
     refine ⟨k + 1, y, by simpa using h1, h2, by simp [idxF, hx, h3]; omega, fun k' hk' z hz => ?_⟩
     cases k' with
     | zero => simp at hz; subst hz; simpa using hx
     | succ k' => exact h4 k' (by omega) z (by simpa using hz)
theorem pickK_spec {n : Nat} {rows : List (List Bool)} (ht : TransR n rows) (l : List Nat) (hl : ∀ i ∈ l, i < n) (hne : l ≠ []) :
   ∃ h : pickK rows l < l.length, (∀ j ∈ l, bef rows j l[pickK rows l] = false) ∧ ∀ k' (h' : k' < pickK rows l), ∃ j ∈ l, bef rows j (l[k']'(Nat.lt_trans h' h)) = true := by
 obtain ⟨m, hm, hmin⟩ := min_exists ht l hl hne
 have hany : (nats l).any (fun x => !l.any fun j => bef rows j x.toNat) = true := by
   unfold nats
   rw [List.any_map, List.any_eq_true]
   refine ⟨m, hm, ?_⟩
   simp only [Function.comp, Int.ofNat_eq_natCast, Int.toNat_natCast, Bool.not_eq_true', List.any_eq_false]
   intro j hj; rw [hmin j hj]; simp
 obtain ⟨k, x, h1, h2, h3, h4⟩ := idxF_get _ (nats l) 0 hany
 have hpk : pickK rows l = k := by unfold pickK; rw [h3]; omega
 unfold nats at h1
 rw [List.getElem?_map] at h1
 obtain ⟨y, hy, hyx⟩ := Option.map_eq_some_iff.1 h1
 obtain ⟨hk, hy2⟩ := List.getElem?_eq_some_iff.1 hy
 subst hyx
 simp only [Int.ofNat_eq_natCast, Int.toNat_natCast, Bool.not_eq_true', List.any_eq_false] at h2
 have hk' : pickK rows l < l.length := by rw [hpk]; exact hk
 refine ⟨hk', fun j hj => ?_, fun k' hk2 => ?_⟩
 · have := h2 j hj
   have e : l[pickK rows l] = y := by rw [← hy2]; congr 1
   rw [e]; simpa using this
 · have hkl : k' < l.length := Nat.lt_trans hk2 hk'
   have := h4 k' (by omega) (Int.ofNat l[k']) (by unfold nats; rw [List.getElem?_map, List.getElem?_eq_getElem hkl]; rfl)
   simp only [Int.ofNat_eq_natCast, Int.toNat_natCast, Bool.not_eq_false', List.any_eq_true] at this
   exact this
theorem _root_.List.getElem_cons_eraseIdx_perm' {l : List Nat} {k : Nat} (h : k < l.length) : (l[k] :: l.eraseIdx k).Perm l := by
 induction l generalizing k with
 | nil => cases h
 | cons a l ih =>
   cases k with
   | zero => exact List.Perm.refl _
   | succ k => exact (List.Perm.swap a _ _).trans ((ih (by simpa using h)).cons a)
theorem arrN_perm (rows : List (List Bool)) {n : Nat} (ht : TransR n rows) : ∀ (f : Nat) (l : List Nat), (∀ i ∈ l, i < n) → l.length = f → (arrN rows f l).Perm l
 | 0, l, _, h => by have := List.eq_nil_of_length_eq_zero h; subst this; exact List.Perm.refl _
 | f + 1, l, hl, h => by
   have hne : l ≠ [] := by intro e; subst e; cases h
   obtain ⟨hk, _⟩ := pickK_spec ht l hl hne
   unfold arrN
   rw [if_neg hne]
   have e : l.getD (pickK rows l) 0 = l[pickK rows l] := by rw [List.getD_eq_getElem?_getD, List.getElem?_eq_getElem hk]; rfl
   rw [e]
   exact ((arrN_perm rows ht f (l.eraseIdx (pickK rows l)) (fun i hi => hl i (List.mem_of_mem_eraseIdx hi)) (by rw [List.length_eraseIdx_of_lt hk]; omega)).cons _).trans (List.getElem_cons_eraseIdx_perm' hk)
theorem arrN_pairwise (rows : List (List Bool)) {n : Nat} (ht : TransR n rows) : ∀ (f : Nat) (l : List Nat), (∀ i ∈ l, i < n) → l.length = f → (arrN rows f l).Pairwise fun a b => bef rows b a = false
 | 0, l, _, h => by unfold arrN; exact List.Pairwise.nil
 | f + 1, l, hl, h => by
   have hne : l ≠ [] := by intro e; subst e; cases h
   obtain ⟨hk, hmin, _⟩ := pickK_spec ht l hl hne
   unfold arrN
   rw [if_neg hne]
   have e : l.getD (pickK rows l) 0 = l[pickK rows l] := by rw [List.getD_eq_getElem?_getD, List.getElem?_eq_getElem hk]; rfl
   rw [e]
   have hl2 : ∀ i ∈ l.eraseIdx (pickK rows l), i < n := fun i hi => hl i (List.mem_of_mem_eraseIdx hi)
   have hlen : (l.eraseIdx (pickK rows l)).length = f := by rw [List.length_eraseIdx_of_lt hk]; omega
   refine List.Pairwise.cons (fun b hb => hmin b ?_) (arrN_pairwise rows ht f _ hl2 hlen)
   exact List.mem_of_mem_eraseIdx ((arrN_perm rows ht f _ hl2 hlen).subset hb)
theorem sortI_perm (l : List Nat) : (sortI l).Perm l := List.mergeSort_perm _ _
theorem arrL_perm {rows : List (List Bool)} {n : Nat} (ht : TransR n rows) (l : List Nat) (hl : ∀ i ∈ l, i < n) : (arrL rows l).Perm l :=
 (arrN_perm rows ht _ _ (fun i hi => hl i ((sortI_perm l).subset hi)) rfl).trans (sortI_perm l)
theorem arrL_pairwise {rows : List (List Bool)} {n : Nat} (ht : TransR n rows) (l : List Nat) (hl : ∀ i ∈ l, i < n) : (arrL rows l).Pairwise fun a b => bef rows b a = false :=
 arrN_pairwise rows ht _ _ (fun i hi => hl i ((sortI_perm l).subset hi)) rfl
theorem unseen_mono {l S S' : List Nat} (h : ∀ x ∈ S, x ∈ S') : unseen l S' ≤ unseen l S := by
 unfold unseen
 induction l with
 | nil => exact Nat.le_refl _
 | cons a l ih =>
   by_cases h1 : a ∈ S
   · have h2 := h a h1
     simpa [h1, h2] using ih
   · by_cases h2 : a ∈ S'
     · simp [h1, h2] at ih ⊢; omega
     · simp [h1, h2] at ih ⊢; omega
theorem unseen_zero {l S : List Nat} (h : unseen l S = 0) : ∀ j ∈ l, j ∈ S := by
 unfold unseen at h
 have := List.eq_nil_of_length_eq_zero h
 intro j hj
 rw [List.filter_eq_nil_iff] at this
 simpa using this j hj
theorem unseen_lt {l S : List Nat} {i : Nat} (hi : i ∈ l) (hs : i ∉ S) : unseen l (i :: S) + 1 ≤ unseen l S := by
 unfold unseen
 induction l with
 | nil => cases hi
 | cons a l ih =>
   have hm : unseen l (i :: S) ≤ unseen l S := unseen_mono fun x hx => List.mem_cons_of_mem _ hx
   unfold unseen at hm
   by_cases ha : a = i
   · subst ha
     simp [hs] at hm ⊢; omega
   · have hi' : i ∈ l := by rcases List.mem_cons.1 hi with h | h; exact absurd h.symm ha; exact h
     have := ih hi'
     by_cases h1 : a ∈ S
     · simpa [h1, ha] using this
     · simp [h1, ha] at this ⊢; omega
inductive Hangs (rows : List (List Bool)) (l : List Nat) (i : Nat) : Nat → Prop
 | self : Hangs rows l i i
 | step {x y : Nat} : Hangs rows l i x → y ∈ l → adj rows x y = true → Hangs rows l i y
theorem Hangs.trans {rows : List (List Bool)} {l : List Nat} {i j k : Nat} (h : Hangs rows l i j) (h2 : Hangs rows l j k) : Hangs rows l i k := by
 induction h2 with
 | self => exact h
 | step _ hy ha ih => exact ih.step hy ha
structure VCl (rows : List (List Bool)) (l S : List Nat) (i : Nat) (r : List Nat × List Nat) : Prop where
 seen : ∀ x, x ∈ r.2 ↔ x ∈ S ∨ x ∈ r.1
 closed : ∀ x ∈ r.1, ∀ j ∈ l, adj rows x j = true → j ∈ r.2
 nodup : r.1.Nodup
 new : ∀ x ∈ r.1, x ∉ S
 mem : ∀ x ∈ r.1, x ∈ l
 self : i ∈ r.1
 hangs : ∀ x ∈ r.1, Hangs rows l i x
theorem vfold_cl {rows : List (List Bool)} {l S : List Nat} {i : Nat} {G : List Nat → Nat → List Nat × List Nat} {f : Nat} (hi : i ∈ l)
   (hG : ∀ S' j, (∀ x ∈ S, x ∈ S') → i ∈ S' → j ∈ l → j ∉ S' → VCl rows l S' j (G S' j)) :
   ∀ (t p : List Nat) (c : List Nat × List Nat), (∀ j ∈ t, j ∈ l) → (∀ x, x ∈ c.2 ↔ x ∈ S ∨ x ∈ c.1) → (∀ x ∈ c.1, x ≠ i → ∀ j ∈ l, adj rows x j = true → j ∈ c.2) → (∀ j ∈ p, adj rows i j = true → j ∈ c.2) →
     c.1.Nodup → (∀ x ∈ c.1, x ∉ S) → (∀ x ∈ c.1, x ∈ l) → i ∈ c.1 → (∀ x ∈ c.1, Hangs rows l i x) → (∀ j ∈ l, j ∈ p ∨ j ∈ t) → VCl rows l S i (t.foldl (vstep rows i G) c)
 | [], p, c, _, h1, h2, h3, h4, h5, h6, h7, h8, hp => ⟨h1, fun x hx j hj ha => by
     by_cases hxi : x = i
     · subst hxi
       rcases hp j hj with h | h
       · exact h3 j h ha
       · cases h
     · exact h2 x hx hxi j hj ha, h4, h5, h6, h7, h8⟩
 | j :: t, p, c, ht, h1, h2, h3, h4, h5, h6, h7, h8, hp => by
   have hp' : ∀ k ∈ l, k ∈ j :: p ∨ k ∈ t := fun k hk => by
     rcases hp k hk with h | h
     · exact .inl (List.mem_cons_of_mem _ h)
     · rcases List.mem_cons.1 h with h | h
       · exact .inl (by rw [h]; exact List.mem_cons_self)
       · exact .inr h
   have ht' : ∀ k ∈ t, k ∈ l := fun k hk => ht k (List.mem_cons_of_mem _ hk)
   rw [List.foldl_cons]
   unfold vstep
   by_cases hc : (!c.2.contains j && adj rows i j) = true
   · rw [if_pos hc]
     simp only [Bool.and_eq_true, Bool.not_eq_true', List.contains_iff_mem, ← Bool.not_eq_true] at hc
     have hjl := ht j List.mem_cons_self
     have hv := hG c.2 j (fun x hx => (h1 x).2 (.inl hx)) ((h1 i).2 (.inr h7)) hjl hc.1
     refine vfold_cl (f := f) hi hG t (j :: p) _ ht' (fun x => ?_) (fun x hx hxi k hk ha => ?_) (fun k hk ha => ?_) ?_ (fun x hx => ?_) (fun x hx => ?_) (List.mem_append_left _ h7) (fun x hx => ?_) hp'
     · rw [hv.seen, h1, List.mem_append, or_assoc]
     · rcases List.mem_append.1 hx with h | h
       · exact (hv.seen k).2 (.inl (h2 x h hxi k hk ha))
       · exact hv.closed x h k hk ha
     · rcases List.mem_cons.1 hk with rfl | hk
       · exact (hv.seen _).2 (.inr hv.self)
       · exact (hv.seen k).2 (.inl (h3 k hk ha))
     · rw [List.nodup_append]
       refine ⟨h4, hv.nodup, fun a ha b hb e => ?_⟩
       subst e
       exact hv.new a hb ((h1 a).2 (.inr ha))
     · rcases List.mem_append.1 hx with h | h
       · exact h5 x h
       · exact fun hs => hv.new x h ((h1 x).2 (.inl hs))
     · rcases List.mem_append.1 hx with h | h
       · exact h6 x h
       · exact hv.mem x h
     · rcases List.mem_append.1 hx with h | h
       · exact h8 x h
       · exact (Hangs.self.step hjl hc.2).trans (hv.hangs x h)
   · rw [if_neg hc]
     refine vfold_cl (f := f) hi hG t (j :: p) c ht' h1 h2 (fun k hk ha => ?_) h4 h5 h6 h7 h8 hp'
     rcases List.mem_cons.1 hk with rfl | hk
     · simp only [Bool.and_eq_true, Bool.not_eq_true', ha, and_true, Bool.not_eq_false] at hc
       simpa using hc
     · exact h3 k hk ha
theorem visit_cl (rows : List (List Bool)) (l : List Nat) : ∀ (f : Nat) (S : List Nat) (i : Nat), i ∈ l → i ∉ S → unseen l S ≤ f + 1 → VCl rows l S i (visit rows l f S i)
 | 0, S, i, hi, hs, hf => by
   have h0 := unseen_lt hi hs
   refine vfold_cl (f := 0) hi (fun S' j h1 h2 hj hjs => ?_) l [] ([i], i :: S) (fun _ h => h) (by simp [or_comm]) (by simp) (by simp) (by simp) (by simpa using hs) (by simpa using hi) (by simp) (by simp; exact Hangs.self) (fun _ h => .inr h)
   have : unseen l S' ≤ unseen l (i :: S) := unseen_mono fun x hx => by
     rcases List.mem_cons.1 hx with h | h
     · rw [h]; exact h2
     · exact h1 x h
   exact absurd (unseen_zero (by omega) j hj) hjs
 | f + 1, S, i, hi, hs, hf => by
   have h0 := unseen_lt hi hs
   refine vfold_cl (f := 0) hi (fun S' j h1 h2 hj hjs => ?_) l [] ([i], i :: S) (fun _ h => h) (by simp [or_comm]) (by simp) (by simp) (by simp) (by simpa using hs) (by simpa using hi) (by simp) (by simp; exact Hangs.self) (fun _ h => .inr h)
   have : unseen l S' ≤ unseen l (i :: S) := unseen_mono fun x hx => by
     rcases List.mem_cons.1 hx with h | h
     · rw [h]; exact h2
     · exact h1 x h
   exact visit_cl rows l f S' j hj hjs (by omega)
structure SidesOk (rows : List (List Bool)) (l : List Nat) (c : List (List Nat) × List Nat) : Prop where
 seen : ∀ x, x ∈ c.2 ↔ x ∈ c.1.flatten
 closed : ∀ x ∈ c.2, ∀ j ∈ l, adj rows x j = true → j ∈ c.2
 nodup : c.1.flatten.Nodup
 mem : ∀ x ∈ c.2, x ∈ l
 apart : c.1.Pairwise fun a b => ∀ x ∈ a, ∀ y ∈ b, adj rows x y = false
 order : ∀ a ∈ c.1, a.Pairwise fun x y => bef rows y x = false
 full : ∀ a ∈ c.1, a ≠ []
theorem cstep_ok {rows : List (List Bool)} {n : Nat} (ht : TransR n rows) {l : List Nat} (hl : ∀ i ∈ l, i < n) {c : List (List Nat) × List Nat} (hc : SidesOk rows l c) {i : Nat} (hi : i ∈ l) :
   SidesOk rows l (cstep rows l c i) ∧ i ∈ (cstep rows l c i).2 ∧ ∀ x ∈ c.2, x ∈ (cstep rows l c i).2 := by
 unfold cstep
 by_cases h : c.2.contains i = true
 · rw [if_pos h]
   exact ⟨hc, by simpa using h, fun _ h => h⟩
 · rw [if_neg h]
   have hs : i ∉ c.2 := by simpa using h
   have hv := visit_cl rows l l.length c.2 i hi hs (by have : unseen l c.2 ≤ l.length := List.length_filter_le _ _; omega)
   have hp := arrL_perm ht (visit rows l l.length c.2 i).1 (fun x hx => hl x (hv.mem x hx))
   have hmem : ∀ x, x ∈ arrL rows (visit rows l l.length c.2 i).1 ↔ x ∈ (visit rows l l.length c.2 i).1 := fun x => hp.mem_iff
   refine ⟨⟨fun x => ?_, fun x hx j hj ha => ?_, ?_, fun x hx => ?_, ?_, fun a ha => ?_, fun a ha => ?_⟩, (hv.seen i).2 (.inr hv.self), fun x hx => (hv.seen x).2 (.inl hx)⟩
   · rw [hv.seen, hc.seen, List.flatten_append, List.mem_append, List.flatten_singleton, hmem]
   · rcases (hv.seen x).1 hx with h | h
     · exact (hv.seen j).2 (.inl (hc.closed x h j hj ha))
     · exact hv.closed x h j hj ha
   · rw [List.flatten_append, List.flatten_singleton, List.nodup_append]
     refine ⟨hc.nodup, hp.nodup_iff.2 hv.nodup, fun a ha b hb e => ?_⟩
     subst e
     exact hv.new a ((hmem a).1 hb) ((hc.seen a).2 ha)
   · rcases (hv.seen x).1 hx with h | h
     · exact hc.mem x h
     · exact hv.mem x h
   · rw [List.pairwise_append]
     refine ⟨hc.apart, List.pairwise_singleton _ _, fun a ha b hb x hx y hy => ?_⟩
     obtain rfl := List.mem_singleton.1 hb
     have hy' := (hmem y).1 hy
     cases hxy : adj rows x y with
     | false => rfl
     | true => exact absurd (hc.closed x ((hc.seen x).2 (List.mem_flatten.2 ⟨a, ha, hx⟩)) y (hv.mem y hy') hxy) (hv.new y hy')
   · rcases List.mem_append.1 ha with h | h
     · exact hc.order a h
     · obtain rfl := List.mem_singleton.1 h
       exact arrL_pairwise ht _ (fun x hx => hl x (hv.mem x hx))
   · rcases List.mem_append.1 ha with h | h
     · exact hc.full a h
     · obtain rfl := List.mem_singleton.1 h
       intro e
       have := (hmem i).2 hv.self
       rw [e] at this; cases this
theorem cfold_ok {rows : List (List Bool)} {n : Nat} (ht : TransR n rows) {l : List Nat} (hl : ∀ i ∈ l, i < n) : ∀ (t : List Nat) (c : List (List Nat) × List Nat), (∀ j ∈ t, j ∈ l) → SidesOk rows l c →
   SidesOk rows l (t.foldl (cstep rows l) c) ∧ (∀ j ∈ t, j ∈ (t.foldl (cstep rows l) c).2) ∧ ∀ x ∈ c.2, x ∈ (t.foldl (cstep rows l) c).2
 | [], c, _, hc => ⟨hc, fun _ h => (by cases h), fun _ h => h⟩
 | j :: t, c, htl, hc => by
   obtain ⟨h1, h2, h3⟩ := cstep_ok ht hl hc (htl j List.mem_cons_self)
   obtain ⟨k1, k2, k3⟩ := cfold_ok ht hl t (cstep rows l c j) (fun x hx => htl x (List.mem_cons_of_mem _ hx)) h1
   rw [List.foldl_cons]
   refine ⟨k1, fun x hx => ?_, fun x hx => k3 x (h3 x hx)⟩
   rcases List.mem_cons.1 hx with rfl | hx
   · exact k3 _ h2
   · exact k2 x hx
theorem classesL_ok {rows : List (List Bool)} {n : Nat} (ht : TransR n rows) {l : List Nat} (hl : ∀ i ∈ l, i < n) :
   SidesOk rows l (classesS rows l l) ∧ (∀ x, x ∈ (classesL rows l).flatten ↔ x ∈ l) := by
 obtain ⟨h1, h2, _⟩ := cfold_ok ht hl l ([], []) (fun _ h => h) ⟨by simp, by simp, by simp, by simp, by simp, by simp, by simp⟩
 exact ⟨h1, fun x => ⟨fun hx => h1.mem x ((h1.seen x).2 hx), fun hx => (h1.seen x).1 (h2 x hx)⟩⟩
theorem relat_cases {rows : List (List Bool)} {i j : Nat} (h : relat rows i j = true) : bef rows i j = true ∨ bef rows j i = true := by
 unfold relat at h; simpa using h
theorem sortB_pairwise {n : Nat} {rows : List (List Bool)} (ht : TransR n rows) (S : List Nat) (hS : ∀ i ∈ S, i < n) (hnd : S.Nodup) (htot : ∀ i ∈ S, ∀ j ∈ S, i ≠ j → relat rows i j = true) :
   (sortB rows S).Pairwise fun a b => bef rows a b = true := by
 have hle : ∀ x y : { i : Nat // i ∈ S }, (!bef rows y.1 x.1) = true ↔ (x = y ∨ bef rows x.1 y.1 = true) := by
   intro x y
   simp only [Bool.not_eq_true']
   constructor
   · intro h
     by_cases e : x = y
     · exact .inl e
     · rcases relat_cases (htot x.1 x.2 y.1 y.2 (fun h => e (Subtype.ext h))) with h1 | h1
       · exact .inr h1
       · rw [h] at h1; cases h1
   · rintro (h | h)
     · rw [h]; exact bef_irrefl _ _
     · exact bef_asymm h
 have h0 : (S.attach.mergeSort fun x y => !bef rows y.1 x.1).Pairwise fun x y => (!bef rows y.1 x.1) = true := by
   refine List.pairwise_mergeSort (fun x y z => ?_) (fun x y => ?_) _
   · rw [hle, hle, hle]
     rintro (h1 | h1) (h2 | h2)
     · exact .inl (h1.trans h2)
     · exact .inr (by rw [h1]; exact h2)
     · exact .inr (by rw [← h2]; exact h1)
     · exact .inr (bef_trans ht (hS _ x.2) (hS _ y.2) (hS _ z.2) h1 h2)
   · rw [Bool.or_eq_true, hle, hle]
     by_cases e : x = y
     · exact .inl (.inl e)
     · rcases relat_cases (htot x.1 x.2 y.1 y.2 (fun h => e (Subtype.ext h))) with h1 | h1
       · exact .inl (.inr h1)
       · exact .inr (.inr h1)
 have h1 : (S.attach.mergeSort fun x y => !bef rows y.1 x.1).map Subtype.val = sortB rows S := by
   unfold sortB
   rw [List.map_mergeSort (s := fun i j => !bef rows j i) (fun a _ b _ => rfl), List.attach_map_subtype_val]
 have hnd2 : (sortB rows S).Nodup := (List.mergeSort_perm S _).nodup_iff.2 hnd
 rw [← h1] at hnd2 ⊢
 rw [List.pairwise_map]
 unfold List.Nodup at hnd2
 rw [List.pairwise_map] at hnd2
 refine (h0.and hnd2).imp fun {x y} h => ?_
 rcases (hle x y).1 h.1 with e | e
 · exact absurd (congrArg Subtype.val e) h.2
 · exact e
theorem sortB_perm (rows : List (List Bool)) (S : List Nat) : (sortB rows S).Perm S := List.mergeSort_perm _ _
structure Lv (n : Nat) (rows : List (List Bool)) (living : List Nat) : Prop where
 t : TransR n rows
 lt : ∀ i ∈ living, i < n
 nd : living.Nodup
theorem mem_inL {rows : List (List Bool)} {living : List Nat} {i : Nat} : i ∈ inL rows living living ↔ i ∈ living ∧ ∀ j ∈ living, i ≠ j → relat rows i j = true := by
 unfold inL unset
 rw [List.mem_filter]
 simp only [Bool.not_eq_true', List.any_eq_false, Bool.and_eq_true, decide_eq_true_eq, not_and, Bool.not_eq_false]
theorem mem_outL {rows : List (List Bool)} {living : List Nat} {i : Nat} : i ∈ outL rows living living ↔ i ∈ living ∧ ∃ j ∈ living, i ≠ j ∧ relat rows i j = false := by
 unfold outL unset
 rw [List.mem_filter]
 simp only [List.any_eq_true, Bool.and_eq_true, decide_eq_true_eq, Bool.not_eq_true']
theorem Lv.inn {n : Nat} {rows : List (List Bool)} {living : List Nat} (h : Lv n rows living) : (sortB rows (inL rows living living)).Pairwise fun a b => bef rows a b = true :=
 sortB_pairwise h.t _ (fun i hi => h.lt i (mem_inL.1 hi).1) (h.nd.sublist List.filter_sublist) fun _ hi j hj hne => (mem_inL.1 hi).2 j (mem_inL.1 hj).1 hne
theorem inOut_perm (rows : List (List Bool)) (living : List Nat) : (inL rows living living ++ outL rows living living).Perm living := by
 unfold inL outL
 have := List.filter_append_perm (fun i => !unset rows living i) living
 simpa using this
theorem Lv.rel {n : Nat} {rows : List (List Bool)} {living : List Nat} (_h : Lv n rows living) {s u : Nat} (hs : s ∈ inL rows living living) (hu : u ∈ living) (hne : s ≠ u) : bef rows s u = true ∨ bef rows u s = true :=
 relat_cases ((mem_inL.1 hs).2 u hu hne)
def Reg.all (r : Reg) : List Nat := r.lines ++ r.sides.flatten
def seqL (rows : List (List Bool)) (living : List Nat) : List Nat := (regionsL rows living).flatMap Reg.all
def flatR (c : List Reg × List Nat) : List Nat := c.1.flatMap Reg.all ++ c.2
theorem flatR_end (c : List Reg × List Nat) : (regEnd c).flatMap Reg.all = flatR c := by
 unfold regEnd flatR
 by_cases h : c.2 = []
 · simp [h]
 · simp [h, Reg.all]
theorem flatR_step (rows : List (List Bool)) (inn out : List Nat) (c : List Reg × List Nat) (m : Nat) :
   flatR (regStep rows inn out c m) = flatR c ++ (classesL rows (out.filter fun i => gapN rows inn i == m)).flatten ++ inn[m]?.toList := by
 obtain ⟨regs, run⟩ := c
 unfold regStep flatR
 dsimp only
 generalize out.filter (fun i => gapN rows inn i == m) = g
 by_cases hg : g = []
 · subst hg
   have : classesL rows [] = [] := rfl
   cases inn[m]? <;> simp [this]
 · by_cases hr : run = []
   · subst hr; cases inn[m]? <;> simp [hg, Reg.all]
   · cases inn[m]? <;> simp [hg, hr, Reg.all]
def front (rows : List (List Bool)) (inn out : List Nat) (m : Nat) : List Nat := flatR (regRun rows inn out m)
theorem front_succ (rows : List (List Bool)) (inn out : List Nat) (m : Nat) : front rows inn out (m + 1) = front rows inn out m ++ (classesL rows (out.filter fun i => gapN rows inn i == m)).flatten ++ inn[m]?.toList := by
 unfold front; rw [regRun_succ, flatR_step]
theorem classes_perm {rows : List (List Bool)} {n : Nat} (ht : TransR n rows) {l : List Nat} (hl : ∀ i ∈ l, i < n) (hnd : l.Nodup) : (classesL rows l).flatten.Perm l :=
 (List.perm_ext_iff_of_nodup (classesL_ok ht hl).1.nodup hnd).2 (classesL_ok ht hl).2
theorem seqL_eq (rows : List (List Bool)) (living : List Nat) : seqL rows living = front rows (sortB rows (inL rows living living)) (outL rows living living) ((sortB rows (inL rows living living)).length + 1) := by
 unfold seqL regionsL front; rw [flatR_end]
theorem front_perm {n : Nat} {rows : List (List Bool)} (ht : TransR n rows) {inn out : List Nat} (hout : ∀ i ∈ out, i < n) (hnd : out.Nodup) : ∀ m : Nat,
   (front rows inn out m).Perm (inn.take m ++ out.filter fun x => decide (gapN rows inn x < m))
 | 0 => by simp [front, regRun, flatR]
 | m + 1 => by
   rw [front_succ]
   have h1 := front_perm ht (inn := inn) hout hnd m
   have h2 := classes_perm ht (l := out.filter fun i => gapN rows inn i == m) (fun i hi => hout i (List.mem_filter.1 hi).1) (hnd.sublist List.filter_sublist)
   have h3 : (out.filter fun x => decide (gapN rows inn x < m + 1)).Perm ((out.filter fun x => decide (gapN rows inn x < m)) ++ out.filter fun i => gapN rows inn i == m) := by
     have := (List.filter_append_perm (fun x => decide (gapN rows inn x < m)) (out.filter fun x => decide (gapN rows inn x < m + 1))).symm
     rw [List.filter_filter, List.filter_filter] at this
     refine this.trans (List.Perm.of_eq ?_)
     congr 1
     · refine List.filter_congr fun x _ => ?_
       by_cases h : gapN rows inn x < m
       · simp [h]; omega
       · simp [h]
     · refine List.filter_congr fun x _ => ?_
       rw [Bool.eq_iff_iff]
       simp; omega
   rw [List.take_add_one]
   refine ((h1.append h2).append_right _).trans ?_
   rw [List.append_assoc, List.append_assoc, List.append_assoc]
   refine List.Perm.append_left _ ?_
   rw [← List.append_assoc]
   exact List.perm_append_comm.trans (List.Perm.append_left _ h3.symm)
theorem seqL_perm {n : Nat} {rows : List (List Bool)} {living : List Nat} (h : Lv n rows living) : (seqL rows living).Perm living := by
 rw [seqL_eq]
 have hol : ∀ i ∈ outL rows living living, i < n := fun i hi => h.lt i (mem_outL.1 hi).1
 refine (front_perm h.t hol (h.nd.sublist List.filter_sublist) _).trans ?_
 rw [List.take_of_length_le (Nat.le_succ _)]
 have : (outL rows living living).filter (fun x => decide (gapN rows (sortB rows (inL rows living living)) x < (sortB rows (inL rows living living)).length + 1)) = outL rows living living := by
   rw [List.filter_eq_self]
   intro x _
   have : gapN rows (sortB rows (inL rows living living)) x ≤ (sortB rows (inL rows living living)).length := List.length_filter_le _ _
   simp; omega
 rw [this]
 exact ((sortB_perm _ _).append_right _).trans (inOut_perm rows living)
end Go.Proofs.Lg
