/-
  Part V3 of this claim's proof. Joined by merge.py from the texts of wip/tpl.
-/
import Derived.Test.YtclholnhkhjjaaaGreatV2
set_option linter.unusedVariables false
set_option linter.unusedSimpArgs false
set_option linter.unnecessarySimpa false
namespace Go.Proofs.Lg
open Go Go.RowKit Go.Shelf Go.Sort

theorem idxF_lt (p : Int → Bool) : ∀ (l : List Int) (k : Nat), idxF p k l = -1 ∨ ((k : Int) ≤ idxF p k l ∧ idxF p k l < k + l.length)
  | [], k => .inl rfl
  | x :: l, k => by
    by_cases h : p x = true
    · right; simp [idxF, h]; omega
    · rcases idxF_lt p l (k + 1) with h2 | ⟨h2, h3⟩
      · left; simp [idxF, h, h2]
      · right
        simp only [idxF, h, Bool.false_eq_true, if_false, List.length_cons]
        omega

/-- The number of the line that comes first. -/
def pickK (rows : List (List Bool)) (l : List Nat) : Nat := (idxF (fun x => !l.any fun j => bef rows j x.toNat) 0 (nats l)).toNat
theorem pickK_lt {rows : List (List Bool)} {l : List Nat} (h : l ≠ []) : pickK rows l < l.length := by
  have hl : 0 < l.length := List.length_pos_iff.2 h
  unfold pickK
  rcases idxF_lt (fun x => !l.any fun j => bef rows j x.toNat) (nats l) 0 with h2 | ⟨h2, h3⟩
  · rw [h2]; simpa using hl
  · rw [nats_length] at h3; omega
def arrN (rows : List (List Bool)) : Nat → List Nat → List Nat
  | 0, _ => []
  | f + 1, l => if l = [] then [] else l.getD (pickK rows l) 0 :: arrN rows f (l.eraseIdx (pickK rows l))
def arrL (rows : List (List Bool)) (l : List Nat) : List Nat := arrN rows (sortI l).length (sortI l)
theorem arrN_length (rows : List (List Bool)) : ∀ (f : Nat) (l : List Nat), l.length = f → (arrN rows f l).length = f
  | 0, _, _ => rfl
  | f + 1, l, h => by
    have hne : l ≠ [] := by intro e; rw [e] at h; cases h
    simp only [arrN, if_neg hne, List.length_cons]
    rw [arrN_length rows f _ (by rw [List.length_eraseIdx_of_lt (pickK_lt hne)]; omega)]

/-- A row of one's own, cut shorter. -/
theorem ownsRow_cut {w : World} {base e g c n m : Nat} {xs ys : List Value} (h : w.ownsRow base e 1 (.slice (some ⟨g, 0, none⟩) n c) n xs) (hm : m ≤ n) (hy : xs.take m = ys) : w.ownsRow base e 1 (.slice (some ⟨g, 0, none⟩) m c) m ys := by
  obtain ⟨hl, h2⟩ := h
  subst hy
  refine ⟨by simp at hl ⊢; omega, .inr ?_⟩
  rcases h2 with ⟨h, _⟩ | ⟨g', cap, cur, hv, hb, hg, h1, h3, h4, h5⟩
  · simp at h
  · obtain ⟨rfl, rfl⟩ : g = g' ∧ c = cap := by simpa using hv
    refine ⟨g, c, cur, rfl, hb, hg, by omega, h3, h4, ?_⟩
    rw [← h5, List.take_take]
    congr 1
    omega

theorem delete_own {w w' : World} {base e g c q k : Nat} {l : List Nat} (h : w.ownsRow base e 1 (.slice (some ⟨g, 0, none⟩) l.length c) l.length (ints (nats l))) (hk : k < l.length)
    (hw : w' = putRow (Value.int .i64) (Sort.ahead w q) g 0 ((nats l).take k ++ (nats l).drop (k + 1) ++ List.replicate (k + 1 - k) 0).toArray) :
    w'.ownsRow base e 1 (.slice (some ⟨g, 0, none⟩) (l.length - 1) c) (l.length - 1) (ints (nats (l.eraseIdx k))) ∧ w.grownBy w' (some g) := by
  rcases h.2 with ⟨h, _⟩ | ⟨g', cap, cur, hv, hb, hg, h1, h3, h4, h5⟩
  · simp at h
  · obtain ⟨rfl, rfl⟩ : g = g' ∧ c = cap := by simpa using hv
    have hlen : ((nats l).take k ++ (nats l).drop (k + 1) ++ List.replicate (k + 1 - k) 0).length = (nats l).length := by simp [nats]; omega
    have e1 : w' = Sort.grow (putRow (Value.int .i64) (Sort.ahead w q) g 0 ((nats l).take k ++ (nats l).drop (k + 1) ++ List.replicate (k + 1 - k) 0).toArray) #[] := by rw [Sort.grow_empty]; exact hw
    refine ⟨?_, by rw [e1]; exact grownBy_sortedI _⟩
    have := ownsRow_sortedI (w := w) (base := base) (g := g) (cap := c) (n := q) (e := e) (os := #[]) (cur := cur) (ss := nats l) hlen hb hg (by rw [nats_length]; exact h1) h3 h4
    rw [← e1, nats_length] at this
    refine ownsRow_cut this (by omega) ?_
    unfold ints
    rw [← List.map_take]
    congr 1
    have e2 : k + 1 - k = 1 := by omega
    have e3 : l.eraseIdx k = l.take k ++ l.drop (k + 1) := List.eraseIdx_eq_take_drop_succ ..
    rw [e2, e3, List.take_append_of_le_length (by simp [nats]; omega), List.take_of_length_le (by simp [nats]; omega)]
    simp [nats]

theorem delete_call {w : World} {base g c k : Nat} {l : List Nat} (h : w.ownsRow base 3 1 (.slice (some ⟨g, 0, none⟩) l.length c) l.length (ints (nats l))) (hk : k < l.length) (_hl : l.length ≤ 1000000) :
    Calls Tryz.prog 136 #[.slice (some ⟨g, 0, none⟩) l.length c, .int .i64 k, .int .i64 ((k : Int) + 1)] w fun e w' => e = .returned (.slice (some ⟨g, 0, none⟩) (l.length - 1) c) ∧
      w'.ownsRow base 3 1 (.slice (some ⟨g, 0, none⟩) (l.length - 1) c) (l.length - 1) (ints (nats (l.eraseIdx k))) ∧ w.grownBy w' (some g) := by
  have h0 := h
  rcases h.2 with ⟨h, _⟩ | ⟨g', cap, cur, hv, hb, hg, h1, h3, h4, h5⟩
  · simp at h
  · obtain ⟨rfl, rfl⟩ : g = g' ∧ c = cap := by simpa using hv
    have hH : Holds (Value.int .i64) w g 0 (nats l).toArray := holds_of_blockI hg (by rw [nats_length]; simpa [ints] using h5)
    have := Tryz.slices_Delete_int g 0 c k (k + 1) (nats l) w hH (by rw [nats_length]; exact h1) (by unfold maxLen at h3; omega) (by omega) (by rw [nats_length]; omega)
    rw [nats_length] at this
    refine this.mono ?_
    rintro e w' ⟨rfl, q, hw⟩
    have e2 : k + 1 - k = 1 := by omega
    exact ⟨by rw [e2], delete_own h0 hk hw⟩

set_option maxHeartbeats 4000000 in
set_option maxRecDepth 100000 in
theorem arranged_any (vl ve vr vv v : Value) (n : Nat) (l : List Nat) (rows : List (List Bool)) (w : World) (h : SlOf w vr (rows.map bools)) (hq : Sq n rows) (hl : ∀ j ∈ l, j < n) (hn : n ≤ 1000000) (hll : l.length ≤ 1000000)
    (hsl : SlAt w v (ints (nats l))) (hvl : ∃ a c m, vl = .slice a m c) (hve : ∃ a c m, ve = .slice a m c) (hvv : ∃ a c m, vv = .slice a m c) :
    Calls Tryz.prog 107 #[.agg #[vl, ve, vr, vv], v] w fun e w' => ∃ u, e = .returned u ∧ w'.ownsRow w.heap.size 3 1 u (arrL rows l).length (ints (nats (arrL rows l))) ∧ Below w.heap.size w w' := by
  obtain ⟨al, cl, ml, rfl⟩ := hvl
  obtain ⟨ae, ce, me, rfl⟩ := hve
  obtain ⟨av, cv, mv, rfl⟩ := hvv
  obtain ⟨ar, cr, mr, rfl⟩ : ∃ a c m, vr = .slice a m c := by obtain ⟨vs, ⟨a, c, h, _⟩, _⟩ := h; exact ⟨a, c, _, h⟩
  have hsl0 := hsl
  obtain ⟨a, c, rfl, k1, k2, k3⟩ := hsl
  rw [ints_length, nats_length] at k1 hsl0 ⊢
  clear k1 k2 k3
  have hb1 : Below w.heap.size w ((w.alloc (.cells #[.slice al ml cl, .slice ae me ce, .slice ar mr cr, .slice av mv cv] 78)).alloc (.cells #[.slice a l.length c] 29)) := ((Below.refl _ _).alloc (Nat.le_refl _) _).alloc (by simp) _
  have hb2 : Below w.heap.size w (((w.alloc (.cells #[.slice al ml cl, .slice ae me ce, .slice ar mr cr, .slice av mv cv] 78)).alloc (.cells #[.slice a l.length c] 29)).alloc (.cells #[.slice a l.length c] 29)) := hb1.alloc (by simp; omega) _
  have hb2' : Below (w.heap.size + 2) ((w.alloc (.cells #[.slice al ml cl, .slice ae me ce, .slice ar mr cr, .slice av mv cv] 78)).alloc (.cells #[.slice a l.length c] 29)) (((w.alloc (.cells #[.slice al ml cl, .slice ae me ce, .slice ar mr cr, .slice av mv cv] 78)).alloc (.cells #[.slice a l.length c] 29)).alloc (.cells #[.slice a l.length c] 29)) := (Below.refl _ _).alloc (by simp) _
  have HVI := Lib.hid (ValuesInt_any a l.length c ((w.alloc (.cells #[.slice al ml cl, .slice ae me ce, .slice ar mr cr, .slice av mv cv] 78)).alloc (.cells #[.slice a l.length c] 29)))
  have HSO := Lib.hid (SortedInt_any (.slice a l.length c) (w.heap.size + 1 + 1) (nats l) (by rw [nats_length]; exact hll) _ (by simp [go_sem]) (hsl0.below hb2))
  have HB2 := Lib.hid (And.intro hb2 hb2')
  have HL := Lib.hid hl
  have HR := Lib.hid h
  clear hb1 hb2 hb2' hl h
  go_enter Tryz.func107, Tryz.ntmps107
  go_wp2_with fail
  refine HVI.out.mono ?_
  rintro e w2 ⟨rfl, rfl⟩
  go_wp2_with fail
  refine HSO.out.mono ?_
  rintro e w3 ⟨u, rfl, hown, hB3⟩
  rw [nats_length] at hown
  obtain ⟨hb2, hb2'⟩ := HB2.out
  have hsz3 := hB3.size
  simp only [World.size_alloc] at hsz3
  have hbx3 : Boxed w3 (w.heap.size + 1) 29 (.slice a l.length c) := (hB3.block _ (by simp)).trans ((hb2'.block _ (by omega)).trans (by have := World.alloc_heap_new (w.alloc (.cells #[.slice al ml cl, .slice ae me ce, .slice ar mr cr, .slice av mv cv] 78)) (.cells #[.slice a l.length c] 29); rwa [World.size_alloc] at this))
  have hB31 : Below (w.heap.size + 1) (w.alloc (.cells #[.slice al ml cl, .slice ae me ce, .slice ar mr cr, .slice av mv cv] 78)) w3 := (((Below.refl _ _).alloc (by simp) _).alloc (by simp) _).trans (hB3.mono (by simp))
  obtain ⟨au, cu, hu⟩ := ownsRow_form hown
  subst hu
  have hc3 := hbx3.cell
  have hf3 := hbx3.frozen
  have hlt3 : w.heap.size + 1 < w3.heap.size := hbx3.lt
  have hown4 : (w3.setCell ⟨w.heap.size + 1, 0, none⟩ (.slice au l.length cu)).ownsRow (w.heap.size + 2) 3 1 (.slice au (sortI l).length cu) (sortI l).length (ints (nats (sortI l))) := by
    rw [nats_sortI, sortI_length]
    refine (ownsRow_base' hown (by simp)).kept (grownBy_setCell' w3 (w.heap.size + 1) _) ?_
    cases hoo : (Value.slice au l.length cu).ownBlock with
    | none => exact .inl rfl
    | some z =>
      right
      intro e
      have := (hown.lt z hoo).1
      obtain rfl := Option.some.inj e
      simp only [World.size_alloc] at this
      omega
  have hbx4 := hbx3.set (.slice au l.length cu)
  have hB4 : Below (w.heap.size + 1) (w.alloc (.cells #[.slice al ml cl, .slice ae me ce, .slice ar mr cr, .slice av mv cv] 78)) (w3.setCell ⟨w.heap.size + 1, 0, none⟩ (.slice au l.length cu)) := hB31.setCell (p := ⟨w.heap.size + 1, 0, none⟩) (by simp) _
  have H4 := Lib.hid (And.intro hown4 (And.intro hbx4 hB4))
  clear hown hB3 hbx3 hB31 hown4 hbx4 hB4 hb2 hb2'
  go_wp2_with fail
  have hsl := sortI_length l
  go_loopg [5] (l.length + 1) (fun gk vo wr => ∃ (L out : List Nat) (vt : Value), gk = L.length + 1 ∧ out ++ arrN rows L.length L = arrL rows l ∧ (∀ j ∈ L, j < n) ∧ L.length + out.length = l.length ∧ Boxed wr (w.heap.size + 1) 29 vt ∧
    wr.ownsRow (w.heap.size + 2) 3 1 vt L.length (ints (nats L)) ∧ wr.ownsRow (w.heap.size + 2) 3 1 vo out.length (ints (nats out)) ∧ (vt.ownBlock = none ∨ vt.ownBlock ≠ vo.ownBlock) ∧ Below (w.heap.size + 1) (w.alloc (.cells #[.slice al ml cl, .slice ae me ce, .slice ar mr cr, .slice av mv cv] 78)) wr)
  case atStart => 
    obtain ⟨q1, q2, q3⟩ := H4.out
    refine ⟨sortI l, [], _, by rw [hsl], rfl, fun j hj => HL.out j (by unfold sortI at hj; simpa using hj), by simp [hsl], q2, by rw [hsl] at q1 ⊢; exact q1, World.ownsRow_nil _ _ _ _, ?_, q3⟩
    cases hoo : (Value.slice au l.length cu).ownBlock with
    | none => exact .inl rfl
    | some z => right; simp [Value.ownBlock]
  case round =>
    obtain ⟨L, out, vt, hgk, harr, hLn, hlen, hbx, hown, hout, hdis, hB⟩ := hrel
    have hltx : w.heap.size + 1 < wr.heap.size := hbx.lt
    have hB0 : Below w.heap.size w wr := ((Below.refl _ _).alloc (Nat.le_refl _) _).trans (hB.mono (by omega))
    obtain ⟨ao, co, hvo⟩ := ownsRow_form hout
    obtain ⟨ag, cg, hvg⟩ := ownsRow_form hown
    subst hvo hvg
    have hcx := hbx.cell
    have x0 : wr.cell? ⟨w.heap.size, 0, none⟩ = some (.slice al ml cl) := (hB.cell (by simp)).trans (by simp [go_sem])
    have x1 : wr.cell? ⟨w.heap.size, 1, none⟩ = some (.slice ae me ce) := (hB.cell (by simp)).trans (by simp [go_sem])
    have x2 : wr.cell? ⟨w.heap.size, 2, none⟩ = some (.slice ar mr cr) := (hB.cell (by simp)).trans (by simp [go_sem])
    have x3 : wr.cell? ⟨w.heap.size, 3, none⟩ = some (.slice av mv cv) := (hB.cell (by simp)).trans (by simp [go_sem])
    have hlt1 : w.heap.size < wr.heap.size := by omega
    by_cases hne : L = []
    · subst hne
      have hout' : Hid (out = arrL rows l) := by show out = _; rw [← harr]; simp [arrN]
      have HO := Lib.hid hout
      clear hout hown hdis harr hbx
      go_wp2_with fail
      go_ret
      exact ⟨_, rfl, by rw [← hout'.out]; exact ownsRow_base' HO.out (by omega), hB0⟩
    · obtain ⟨g, rfl, hbg⟩ : ∃ g, ag = some ⟨g, 0, none⟩ ∧ w.heap.size + 2 ≤ g := by
        rcases hown.2 with ⟨h, _⟩ | ⟨g, cap, cur, hv, hbg, _⟩
        · have h1 : L.length = 0 := by injection h
          exact absurd (List.eq_nil_of_length_eq_zero h1) hne
        · have : ag = some ⟨g, 0, none⟩ ∧ cg = cap := by simpa using hv
          exact ⟨g, this.1, hbg⟩
      have hlp : 0 < L.length := List.length_pos_iff.2 hne
      have hkl := pickK_lt (rows := rows) hne
      have harr2 : arrN rows L.length L = L[pickK rows L] :: arrN rows (L.length - 1) (L.eraseIdx (pickK rows L)) := by
        obtain ⟨m, hm⟩ : ∃ m, L.length = m + 1 := ⟨L.length - 1, by omega⟩
        rw [hm]
        simp only [arrN, if_neg hne, Nat.add_sub_cancel]
        congr 1
        simp [hkl]
      have hpred : PredOk Tryz.prog 134 #[.pointer (some ⟨w.heap.size + 1, 0, none⟩), .pointer (some ⟨w.heap.size, 0, none⟩)] (fun x => 0 ≤ x ∧ x < n) (fun x => !L.any fun j => bef rows j x.toNat) wr := by
        rintro x ⟨hx0, hxn⟩ W hW
        have := arranged1_any (.slice al ml cl) (.slice ae me ce) (.slice ar mr cr) (.slice av mv cv) (.slice (some ⟨g, 0, none⟩) L.length cg) n x.toNat (w.heap.size + 1) w.heap.size L rows W (HR.out.below (hB0.trans (hW.mono hB0.size))) hq (by omega) hLn hn (by omega) ((ownsRow_slAt hown).below hW) (below_cell hW hcx) (below_cell hW x0) (below_cell hW x1) (below_cell hW x2) (below_cell hW x3)
        rw [Int.toNat_of_nonneg hx0] at this
        exact this
      have hidx := IndexFuncInt_any (nats L) (.slice (some ⟨g, 0, none⟩) L.length cg) 134 _ _ _ wr (ownsRow_slAt hown) (mem_nats hLn) (by rw [nats_length]; omega) (enters_of Tryz.func134 (by kernel_rfl) rfl) hpred
      have hz := idxF_lt (fun x => !L.any fun j => bef rows j x.toNat) (nats L) 0
      rw [nats_length] at hz
      have hk0 : pickK rows L = (idxF (fun x => !L.any fun j => bef rows j x.toNat) 0 (nats L)).toNat := rfl
      generalize idxF (fun x => !L.any fun j => bef rows j x.toNat) 0 (nats L) = z at hidx hz hk0
      generalize pickK rows L = k at hkl harr2 hk0
      have hcell : wr.cell? ⟨g, k, none⟩ = some (.int .i64 (L[k] : Nat)) := by
        obtain ⟨a', c', hv, _, _, h3⟩ := ownsRow_slAt hown
        obtain ⟨b, off, hab, hc⟩ := h3 (by simp [ints, nats, hne])
        have hv' := (Value.slice.inj hv).1
        rw [hab] at hv'
        obtain ⟨rfl, rfl⟩ : g = b ∧ 0 = off := by simpa using hv'
        simpa using hc k (.int .i64 (L[k] : Nat)) (by simp [ints, nats, hkl])
      have hmem : L[k] < n := hLn _ (List.getElem_mem _)
      have HX := Lib.hid hidx
      have HBX := Lib.hid (And.intro hbx (And.intro hown (And.intro hout (And.intro hdis (And.intro hB hcell)))))
      have HA := Lib.hid (And.intro harr (And.intro harr2 (And.intro hLn hk0)))
      have hmx : max z 0 = (k : Int) := by omega
      clear hidx hpred hbx hown hout hdis hB harr harr2 hLn hz hk0
      generalize hxx : L[k] = x at hcell hmem
      have HXX := Lib.hid hxx
      clear hxx
      go_wp2_with fail
      refine HX.out.mono ?_
      rintro e w1 ⟨rfl, hb1⟩
      clear x0 x1 x2 x3 hcx
      obtain ⟨hbx, hown, hout, hdis, hB, _⟩ := HBX.out
      have hbx1 : Boxed w1 (w.heap.size + 1) 29 (.slice (some ⟨g, 0, none⟩) L.length cg) := (hb1.block _ hltx).trans hbx
      have hcx := hbx1.cell
      have hltx1 := hbx1.lt
      have hlx1 : w.heap.size < w1.heap.size := by omega
      have hcell1 : w1.cell? ⟨g, k, none⟩ = some (.int .i64 x) := below_cell hb1 hcell
      have hlg : g < w1.heap.size := cell_lt hcell1
      have HO2 : Hid ((w1.alloc (.cells #[.int .i64 x] 3)).ownsRow (w.heap.size + 2) 3 1 (.slice ao out.length co) out.length (ints (nats out))) := ownsRow_below (ownsRow_below hout hb1) ((Below.refl _ _).alloc (Nat.le_refl _) _)
      have HG2 : Hid ((w1.alloc (.cells #[.int .i64 x] 3)).ownsRow (w.heap.size + 2) 3 1 (.slice (some ⟨g, 0, none⟩) L.length cg) L.length (ints (nats L))) := ownsRow_below (ownsRow_below hown hb1) ((Below.refl _ _).alloc (Nat.le_refl _) _)
      have HX2 : Hid (Boxed (w1.alloc (.cells #[.int .i64 x] 3)) (w.heap.size + 1) 29 (.slice (some ⟨g, 0, none⟩) L.length cg)) := hbx1.alloc _
      have HNE : Hid (some (w.heap.size + 1) ≠ (Value.slice ao out.length co).ownBlock) := fun e => by have := (hout.lt _ e.symm).1; omega
      have HSRC : Hid (SrcAt (w1.alloc (.cells #[.int .i64 x] 3)) (.slice (some ⟨w1.heap.size, 0, none⟩) 1 1) 1 1 [.int .i64 x]) := by
        refine SrcAt.one _ _ _ [.int .i64 x] fun j u hu => ?_
        cases j with
        | zero => simp at hu; subst hu; simp [go_sem]
        | succ j => simp at hu
      have HONE : Hid (∀ u ∈ [Value.int .i64 (x : Int)], u.oneCell' = true) := by
        intro u hu; simp at hu; subst hu; rfl
      have HBS : Hid (w.heap.size + 2 ≤ (w1.alloc (.cells #[.int .i64 x] 3)).heap.size) := by show _ ≤ _; simp; omega
      have HD := Lib.hid hdis
      have HB := Lib.hid (And.intro hB hb1)
      clear hbx hown hout hdis hB hbx1 hb1
      go_wp2_with (at_builtin; refine wpList_app rfl _ _ _ rfl (w.heap.size + 2) 3 (.int .i64 0) 1 8 Tryz.underlying29 info_int rfl (by decide) _ out.length (ints (nats out)) rfl HO2.out _ 1 [.int .i64 x] rfl HSRC.out HONE.out (by omega) (by omega) HBS.out ?_; intro a' c' w2 hown2 hgrow2 hat2; have hbx2 := HX2.out.kept hgrow2 HNE.out; have hcx2 := hbx2.cell)
      have hg2 := HG2.out.kept hgrow2 HD.out
      have hdel := delete_call hg2 hkl (by omega)
      have HG3 := Lib.hid hg2
      have HB2 := Lib.hid (And.intro hbx2 (And.intro hown2 (And.intro hgrow2 hat2)))
      clear hg2 hbx2 hown2 hgrow2 hat2
      refine hdel.mono ?_
      rintro e w4 ⟨rfl, hown4, hgrow4⟩
      obtain ⟨hbx2, hown2, hgrow2, hat2⟩ := HB2.out
      have hneg : some (w.heap.size + 1) ≠ some g := fun e => by obtain rfl := Option.some.inj e; omega
      have hbx4 := hbx2.kept hgrow4 hneg
      have hcx4 := hbx4.cell
      have hfx4 := hbx4.frozen
      have hlt4 := hbx4.lt
      have H4 := Lib.hid (And.intro hown4 (And.intro hgrow4 hbx4))
      clear hbx2 hown2 hgrow2 hat2 hown4 hgrow4 hbx4
      go_wp2_with fail
      obtain ⟨hown4, hgrow4, hbx4⟩ := H4.out
      obtain ⟨hbx2, hown2, hgrow2, hat2⟩ := HB2.out
      obtain ⟨harr, harr2, hLn, _⟩ := HA.out
      have hel : (L.eraseIdx k).length = L.length - 1 := List.length_eraseIdx_of_lt hkl
      have hgo : (Value.slice a' (out.length + 1) c').ownBlock ≠ some g := by
        intro e
        rcases hat2 with e2 | e2
        · rcases HD.out with h | h
          · simp [Value.ownBlock] at h
          · exact h (Eq.trans (Eq.symm e) e2)
        · rw [e] at e2
          have := Option.some.inj e2
          simp at this
          omega
      have hao : (Value.slice a' (out.length + 1) c').ownBlock ≠ some (w.heap.size + 1) := fun e => by have := (hown2.lt _ e).1; omega
      have hB5 : Below (w.heap.size + 1) (w.alloc (.cells #[.slice al ml cl, .slice ae me ce, .slice ar mr cr, .slice av mv cv] 78)) w4 :=
        Below.grown (Below.grown ((HB.out.1.trans (HB.out.2.mono (by omega))).alloc (by omega) _) hgrow2 (by simp; omega) (fun j hj => by have := (HO2.out.lt j hj).1; omega)) hgrow4 (by have := hgrow2.size; simp at this; omega) (fun j hj => by obtain rfl := Option.some.inj hj; omega)
      go_roundg (gk - 1)
      case measure => omega
      case rel =>
        refine ⟨L.eraseIdx k, out ++ [x], _, by omega, ?_, fun j hj => hLn j (List.mem_of_mem_eraseIdx hj), by simp; omega, hbx4.set _, ?_, ?_, .inr ?_, hB5.setCell (p := ⟨w.heap.size + 1, 0, none⟩) (by simp) _⟩
        · rw [hel, ← harr, harr2, HXX.out]; simp
        · rw [hel]
          exact hown4.kept (grownBy_setCell' w4 (w.heap.size + 1) _) (.inr fun e => hneg e.symm)
        · have := (hown2.kept hgrow4 (.inr hgo)).kept (grownBy_setCell' w4 (w.heap.size + 1) (.slice (some ⟨g, 0, none⟩) (L.length - 1) cg)) (.inr hao)
          simpa [ints, nats] using this
        · exact fun e => hgo e.symm
end Go.Proofs.Lg
