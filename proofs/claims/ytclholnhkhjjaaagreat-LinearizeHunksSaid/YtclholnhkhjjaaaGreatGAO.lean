/-
  Part GAO of this claim's proof. Joined by merge.py from the texts of wip/tpl.
-/
import Derived.Test.YtclholnhkhjjaaaGreatGAN
import Derived.Maps.Own
import Derived.Maps.OwnOps
import Derived.Maps.OwnSet
import Derived.Maps.Views
set_option linter.unusedVariables false
set_option linter.unusedSimpArgs false
set_option linter.unnecessarySimpa false
namespace Go.Proofs.Lg
open Go Go.RowKit Go.Shelf Go.Sort
theorem idxF_lt (p : Int → Bool) : ∀ (l : List Int) (k : Nat), idxF p k l = -1 ∨ ((k : Int) ≤ idxF p k l ∧ idxF p k l < k + l.length)
 | [], k => .inl rfl
 | x :: l, k => by
   by_cases h : p x = true
   · right; simp [idxF, h]; omega
   · rcases idxF_lt p l (k + 1) with h2 | ⟨h2, h3⟩
     · left; simp [idxF, h, h2]
     · right
       simp only [idxF, h, Bool.false_eq_true, if_false, List.length_cons]
       omega
def pickK (rows : List (List Bool)) (l : List Nat) : Nat := (idxF (fun x => !l.any fun j => bef rows j x.toNat) 0 (nats l)).toNat
theorem pickK_lt {rows : List (List Bool)} {l : List Nat} (h : l ≠ []) : pickK rows l < l.length := by
 have hl : 0 < l.length := List.length_pos_iff.2 h
 unfold pickK
 rcases idxF_lt (fun x => !l.any fun j => bef rows j x.toNat) (nats l) 0 with h2 | ⟨h2, h3⟩
 · rw [h2]; simpa using hl
 · rw [nats_length] at h3; omega
def arrN (rows : List (List Bool)) : Nat → List Nat → List Nat
 | 0, _ => []
 | f + 1, l => if l = [] then [] else l.getD (pickK rows l) 0 :: arrN rows f (l.eraseIdx (pickK rows l))
def arrL (rows : List (List Bool)) (l : List Nat) : List Nat := arrN rows (sortI l).length (sortI l)
theorem arrN_length (rows : List (List Bool)) : ∀ (f : Nat) (l : List Nat), l.length = f → (arrN rows f l).length = f
 | 0, _, _ => rfl
 | f + 1, l, h => by
   have hne : l ≠ [] := by intro e; rw [e] at h; cases h
   simp only [arrN, if_neg hne, List.length_cons]
   rw [arrN_length rows f _ (by rw [List.length_eraseIdx_of_lt (pickK_lt hne)]; omega)]
theorem ownsRow_cut {w : World} {base e g c n m : Nat} {xs ys : List Value} (h : w.ownsRow base e 1 (.slice (some ⟨g, 0, none⟩) n c) n xs) (hm : m ≤ n) (hy : xs.take m = ys) : w.ownsRow base e 1 (.slice (some ⟨g, 0, none⟩) m c) m ys := by
 obtain ⟨hl, h2⟩ := h
 subst hy
 refine ⟨by simp at hl ⊢; omega, .inr ?_⟩
 rcases h2 with ⟨h, _⟩ | ⟨g', cap, cur, hv, hb, hg, h1, h3, h4, h5⟩
 · simp at h
 · obtain ⟨rfl, rfl⟩ : g = g' ∧ c = cap := by simpa using hv
   refine ⟨g, c, cur, rfl, hb, hg, by omega, h3, h4, ?_⟩
   rw [← h5, List.take_take]
   congr 1
   omega
theorem delete_own {w w' : World} {base e g c q k : Nat} {l : List Nat} (h : w.ownsRow base e 1 (.slice (some ⟨g, 0, none⟩) l.length c) l.length (ints (nats l))) (hk : k < l.length)
   (hw : w' = putRow (Value.int .i64) (Sort.ahead w q) g 0 ((nats l).take k ++ (nats l).drop (k + 1) ++ List.replicate (k + 1 - k) 0).toArray) :
   w'.ownsRow base e 1 (.slice (some ⟨g, 0, none⟩) (l.length - 1) c) (l.length - 1) (ints (nats (l.eraseIdx k))) ∧ w.grownBy w' (some g) := by
 rcases h.2 with ⟨h, _⟩ | ⟨g', cap, cur, hv, hb, hg, h1, h3, h4, h5⟩
 · simp at h
 · obtain ⟨rfl, rfl⟩ : g = g' ∧ c = cap := by simpa using hv
   have hlen : ((nats l).take k ++ (nats l).drop (k + 1) ++ List.replicate (k + 1 - k) 0).length = (nats l).length := by simp [nats]; omega
   have e1 : w' = Sort.grow (putRow (Value.int .i64) (Sort.ahead w q) g 0 ((nats l).take k ++ (nats l).drop (k + 1) ++ List.replicate (k + 1 - k) 0).toArray) #[] := by rw [Sort.grow_empty]; exact hw
   refine ⟨?_, by rw [e1]; exact grownBy_sortedI _⟩
   have := ownsRow_sortedI (w := w) (base := base) (g := g) (cap := c) (n := q) (e := e) (os := #[]) (cur := cur) (ss := nats l) hlen hb hg (by rw [nats_length]; exact h1) h3 h4
   rw [← e1, nats_length] at this
   refine ownsRow_cut this (by omega) ?_
   unfold ints
   rw [← List.map_take]
   congr 1
   have e2 : k + 1 - k = 1 := by omega
   have e3 : l.eraseIdx k = l.take k ++ l.drop (k + 1) := List.eraseIdx_eq_take_drop_succ ..
   rw [e2, e3, List.take_append_of_le_length (by simp [nats]; omega), List.take_of_length_le (by simp [nats]; omega)]
   simp [nats]
theorem delete_call {w : World} {base g c k : Nat} {l : List Nat} (h : w.ownsRow base 3 1 (.slice (some ⟨g, 0, none⟩) l.length c) l.length (ints (nats l))) (hk : k < l.length) (_hl : l.length ≤ 1000000) :
   Calls Tryz.prog 136 #[.slice (some ⟨g, 0, none⟩) l.length c, .int .i64 k, .int .i64 ((k : Int) + 1)] w fun e w' => e = .returned (.slice (some ⟨g, 0, none⟩) (l.length - 1) c) ∧
     w'.ownsRow base 3 1 (.slice (some ⟨g, 0, none⟩) (l.length - 1) c) (l.length - 1) (ints (nats (l.eraseIdx k))) ∧ w.grownBy w' (some g) := by
 have h0 := h
 rcases h.2 with ⟨h, _⟩ | ⟨g', cap, cur, hv, hb, hg, h1, h3, h4, h5⟩
 · simp at h
 · obtain ⟨rfl, rfl⟩ : g = g' ∧ c = cap := by simpa using hv
   have hH : Holds (Value.int .i64) w g 0 (nats l).toArray := holds_of_blockI hg (by rw [nats_length]; simpa [ints] using h5)
   have := Tryz.slices_Delete_int g 0 c k (k + 1) (nats l) w hH (by rw [nats_length]; exact h1) (by unfold maxLen at h3; omega) (by omega) (by rw [nats_length]; omega)
   rw [nats_length] at this
   refine this.mono ?_
   rintro e w' ⟨rfl, q, hw⟩
   have e2 : k + 1 - k = 1 := by omega
   exact ⟨by rw [e2], delete_own h0 hk hw⟩
set_option maxHeartbeats 4000000 in
set_option maxRecDepth 100000 in
theorem arranged_any (vl ve vr vv v : Value) (n : Nat) (l : List Nat) (rows : List (List Bool)) (w : World) (h : SlOf w vr (rows.map bools)) (hq : Sq n rows) (hl : ∀ j ∈ l, j < n) (hn : n ≤ 1000000) (hll : l.length ≤ 1000000)
   (hsl : SlAt w v (ints (nats l))) (hvl : ∃ a c m, vl = .slice a m c) (hve : ∃ a c m, ve = .slice a m c) (hvv : ∃ a c m, vv = .slice a m c) :
   Calls Tryz.prog 107 #[.agg #[vl, ve, vr, vv], v] w fun e w' => ∃ u, e = .returned u ∧ w'.ownsRow w.heap.size 3 1 u (arrL rows l).length (ints (nats (arrL rows l))) ∧ Below w.heap.size w w' := by
 obtain ⟨al, cl, ml, rfl⟩ := hvl
 obtain ⟨ae, ce, me, rfl⟩ := hve
 obtain ⟨av, cv, mv, rfl⟩ := hvv
 obtain ⟨ar, cr, mr, rfl⟩ : ∃ a c m, vr = .slice a m c := by obtain ⟨vs, ⟨a, c, h, _⟩, _⟩ := h; exact ⟨a, c, _, h⟩
 have hsl0 := hsl
 obtain ⟨a, c, rfl, k1, k2, k3⟩ := hsl
 rw [ints_length, nats_length] at k1 hsl0 ⊢
 clear k1 k2 k3
 have hb1 : Below w.heap.size w ((w.alloc (.cells #[.slice al ml cl, .slice ae me ce, .slice ar mr cr, .slice av mv cv] 78)).alloc (.cells #[.slice a l.length c] 29)) := ((Below.refl _ _).alloc (Nat.le_refl _) _).alloc (by simp) _
 have hb2 : Below w.heap.size w (((w.alloc (.cells #[.slice al ml cl, .slice ae me ce, .slice ar mr cr, .slice av mv cv] 78)).alloc (.cells #[.slice a l.length c] 29)).alloc (.cells #[.slice a l.length c] 29)) := hb1.alloc (by simp; omega) _
 have hb2' : Below (w.heap.size + 2) ((w.alloc (.cells #[.slice al ml cl, .slice ae me ce, .slice ar mr cr, .slice av mv cv] 78)).alloc (.cells #[.slice a l.length c] 29)) (((w.alloc (.cells #[.slice al ml cl, .slice ae me ce, .slice ar mr cr, .slice av mv cv] 78)).alloc (.cells #[.slice a l.length c] 29)).alloc (.cells #[.slice a l.length c] 29)) := (Below.refl _ _).alloc (by simp) _
 have HVI := Lib.hid (ValuesInt_any a l.length c ((w.alloc (.cells #[.slice al ml cl, .slice ae me ce, .slice ar mr cr, .slice av mv cv] 78)).alloc (.cells #[.slice a l.length c] 29)))
 have HSO := Lib.hid (SortedInt_any (.slice a l.length c) (w.heap.size + 1 + 1) (nats l) (by rw [nats_length]; exact hll) _ (by simp [go_sem]) (hsl0.below hb2))
 have HB2 := Lib.hid (And.intro hb2 hb2')
 have HL := Lib.hid hl
 have HR := Lib.hid h
 clear hb1 hb2 hb2' hl h
 go_enter Tryz.func107, Tryz.ntmps107
 go_wp2_with fail
 refine HVI.out.mono ?_
 rintro e w2 ⟨rfl, rfl⟩
 go_wp2_with fail
 refine HSO.out.mono ?_
 rintro e w3 ⟨u, rfl, hown, hB3⟩
 rw [nats_length] at hown
 obtain ⟨hb2, hb2'⟩ := HB2.out
 have hsz3 := hB3.size
 simp only [World.size_alloc] at hsz3
 have hbx3 : Boxed w3 (w.heap.size + 1) 29 (.slice a l.length c) := (hB3.block _ (by simp)).trans ((hb2'.block _ (by omega)).trans (by have := World.alloc_heap_new (w.alloc (.cells #[.slice al ml cl, .slice ae me ce, .slice ar mr cr, .slice av mv cv] 78)) (.cells #[.slice a l.length c] 29); rwa [World.size_alloc] at this))
 have hB31 : Below (w.heap.size + 1) (w.alloc (.cells #[.slice al ml cl, .slice ae me ce, .slice ar mr cr, .slice av mv cv] 78)) w3 := (((Below.refl _ _).alloc (by simp) _).alloc (by simp) _).trans (hB3.mono (by simp))
 obtain ⟨au, cu, hu⟩ := ownsRow_form hown
 subst hu
 have hc3 := hbx3.cell
 have hf3 := hbx3.frozen
 have hlt3 : w.heap.size + 1 < w3.heap.size := hbx3.lt
 have hown4 : (w3.setCell ⟨w.heap.size + 1, 0, none⟩ (.slice au l.length cu)).ownsRow (w.heap.size + 2) 3 1 (.slice au (sortI l).length cu) (sortI l).length (ints (nats (sortI l))) := by
   rw [nats_sortI, sortI_length]
   refine (ownsRow_base' hown (by simp)).kept (grownBy_setCell' w3 (w.heap.size + 1) _) ?_
   cases hoo : (Value.slice au l.length cu).ownBlock with
   | none => exact .inl rfl
   | some z =>
     right
     intro e
     have := (hown.lt z hoo).1
     obtain rfl := Option.some.inj e
     simp only [World.size_alloc] at this
     omega
 have hbx4 := hbx3.set (.slice au l.length cu)
 have hB4 : Below (w.heap.size + 1) (w.alloc (.cells #[.slice al ml cl, .slice ae me ce, .slice ar mr cr, .slice av mv cv] 78)) (w3.setCell ⟨w.heap.size + 1, 0, none⟩ (.slice au l.length cu)) := hB31.setCell (p := ⟨w.heap.size + 1, 0, none⟩) (by simp) _
 have H4 := Lib.hid (And.intro hown4 (And.intro hbx4 hB4))
 clear hown hB3 hbx3 hB31 hown4 hbx4 hB4 hb2 hb2'
 go_wp2_with fail
 have hsl := sortI_length l
 go_loopg [5] (l.length + 1) (fun gk vo wr => ∃ (L out : List Nat) (vt : Value), gk = L.length + 1 ∧ out ++ arrN rows L.length L = arrL rows l ∧ (∀ j ∈ L, j < n) ∧ L.length + out.length = l.length ∧ Boxed wr (w.heap.size + 1) 29 vt ∧
   wr.ownsRow (w.heap.size + 2) 3 1 vt L.length (ints (nats L)) ∧ wr.ownsRow (w.heap.size + 2) 3 1 vo out.length (ints (nats out)) ∧ (vt.ownBlock = none ∨ vt.ownBlock ≠ vo.ownBlock) ∧ Below (w.heap.size + 1) (w.alloc (.cells #[.slice al ml cl, .slice ae me ce, .slice ar mr cr, .slice av mv cv] 78)) wr)
 case atStart => 
   obtain ⟨q1, q2, q3⟩ := H4.out
   refine ⟨sortI l, [], _, by rw [hsl], rfl, fun j hj => HL.out j (by unfold sortI at hj; simpa using hj), by simp [hsl], q2, by rw [hsl] at q1 ⊢; exact q1, World.ownsRow_nil _ _ _ _, ?_, q3⟩
   cases hoo : (Value.slice au l.length cu).ownBlock with
   | none => exact .inl rfl
   | some z => right; simp [Value.ownBlock]
 case round =>
   obtain ⟨L, out, vt, hgk, harr, hLn, hlen, hbx, hown, hout, hdis, hB⟩ := hrel
   have hltx : w.heap.size + 1 < wr.heap.size := hbx.lt
   have hB0 : Below w.heap.size w wr := ((Below.refl _ _).alloc (Nat.le_refl _) _).trans (hB.mono (by omega))
   obtain ⟨ao, co, hvo⟩ := ownsRow_form hout
   obtain ⟨ag, cg, hvg⟩ := ownsRow_form hown
   subst hvo hvg
   have hcx := hbx.cell
   have x0 : wr.cell? ⟨w.heap.size, 0, none⟩ = some (.slice al ml cl) := (hB.cell (by simp)).trans (by simp [go_sem])
   have x1 : wr.cell? ⟨w.heap.size, 1, none⟩ = some (.slice ae me ce) := (hB.cell (by simp)).trans (by simp [go_sem])
   have x2 : wr.cell? ⟨w.heap.size, 2, none⟩ = some (.slice ar mr cr) := (hB.cell (by simp)).trans (by simp [go_sem])
   have x3 : wr.cell? ⟨w.heap.size, 3, none⟩ = some (.slice av mv cv) := (hB.cell (by simp)).trans (by simp [go_sem])
   have hlt1 : w.heap.size < wr.heap.size := by omega
   by_cases hne : L = []
   · subst hne
     have hout' : Hid (out = arrL rows l) := by show out = _; rw [← harr]; simp [arrN]
     have HO := Lib.hid hout
     clear hout hown hdis harr hbx
     go_wp2_with fail
     go_ret
     exact ⟨_, rfl, by rw [← hout'.out]; exact ownsRow_base' HO.out (by omega), hB0⟩
   · obtain ⟨g, rfl, hbg⟩ : ∃ g, ag = some ⟨g, 0, none⟩ ∧ w.heap.size + 2 ≤ g := by
       rcases hown.2 with ⟨h, _⟩ | ⟨g, cap, cur, hv, hbg, _⟩
       · have h1 : L.length = 0 := by injection h
         exact absurd (List.eq_nil_of_length_eq_zero h1) hne
       · have : ag = some ⟨g, 0, none⟩ ∧ cg = cap := by simpa using hv
         exact ⟨g, this.1, hbg⟩
     have hlp : 0 < L.length := List.length_pos_iff.2 hne
     have hkl := pickK_lt (rows := rows) hne
     have harr2 : arrN rows L.length L = L[pickK rows L] :: arrN rows (L.length - 1) (L.eraseIdx (pickK rows L)) := by
       obtain ⟨m, hm⟩ : ∃ m, L.length = m + 1 := ⟨L.length - 1, by omega⟩
       rw [hm]
       simp only [arrN, if_neg hne, Nat.add_sub_cancel]
       congr 1
       simp [hkl]
     have hpred : PredOk Tryz.prog 134 #[.pointer (some ⟨w.heap.size + 1, 0, none⟩), .pointer (some ⟨w.heap.size, 0, none⟩)] (fun x => 0 ≤ x ∧ x < n) (fun x => !L.any fun j => bef rows j x.toNat) wr := by
       rintro x ⟨hx0, hxn⟩ W hW
       have := arranged1_any (.slice al ml cl) (.slice ae me ce) (.slice ar mr cr) (.slice av mv cv) (.slice (some ⟨g, 0, none⟩) L.length cg) n x.toNat (w.heap.size + 1) w.heap.size L rows W (HR.out.below (hB0.trans (hW.mono hB0.size))) hq (by omega) hLn hn (by omega) ((ownsRow_slAt hown).below hW) (below_cell hW hcx) (below_cell hW x0) (below_cell hW x1) (below_cell hW x2) (below_cell hW x3)
       rw [Int.toNat_of_nonneg hx0] at this
       exact this
     have hidx := IndexFuncInt_any (nats L) (.slice (some ⟨g, 0, none⟩) L.length cg) 134 _ _ _ wr (ownsRow_slAt hown) (mem_nats hLn) (by rw [nats_length]; omega) (enters_of Tryz.func134 (by kernel_rfl) rfl) hpred
     have hz := idxF_lt (fun x => !L.any fun j => bef rows j x.toNat) (nats L) 0
     rw [nats_length] at hz
     have hk0 : pickK rows L = (idxF (fun x => !L.any fun j => bef rows j x.toNat) 0 (nats L)).toNat := rfl
     generalize idxF (fun x => !L.any fun j => bef rows j x.toNat) 0 (nats L) = z at hidx hz hk0
     generalize pickK rows L = k at hkl harr2 hk0
     have hcell : wr.cell? ⟨g, k, none⟩ = some (.int .i64 (L[k] : Nat)) := by
       obtain ⟨a', c', hv, _, _, h3⟩ := ownsRow_slAt hown
       obtain ⟨b, off, hab, hc⟩ := h3 (by simp [ints, nats, hne])
       have hv' := (Value.slice.inj hv).1
       rw [hab] at hv'
       obtain ⟨rfl, rfl⟩ : g = b ∧ 0 = off := by simpa using hv'
       simpa using hc k (.int .i64 (L[k] : Nat)) (by simp [ints, nats, hkl])
     have hmem : L[k] < n := hLn _ (List.getElem_mem _)
     have HX := Lib.hid hidx
     have HBX := Lib.hid (And.intro hbx (And.intro hown (And.intro hout (And.intro hdis (And.intro hB hcell)))))
     have HA := Lib.hid (And.intro harr (And.intro harr2 (And.intro hLn hk0)))
     have hmx : max z 0 = (k : Int) := by omega
     clear hidx hpred hbx hown hout hdis hB harr harr2 hLn hz hk0
     generalize hxx : L[k] = x at hcell hmem
     have HXX := Lib.hid hxx
     clear hxx
     go_wp2_with fail
     refine HX.out.mono ?_
     rintro e w1 ⟨rfl, hb1⟩
     clear x0 x1 x2 x3 hcx
     obtain ⟨hbx, hown, hout, hdis, hB, _⟩ := HBX.out
     have hbx1 : Boxed w1 (w.heap.size + 1) 29 (.slice (some ⟨g, 0, none⟩) L.length cg) := (hb1.block _ hltx).trans hbx
     have hcx := hbx1.cell
     have hltx1 := hbx1.lt
     have hlx1 : w.heap.size < w1.heap.size := by omega
     have hcell1 : w1.cell? ⟨g, k, none⟩ = some (.int .i64 x) := below_cell hb1 hcell
     have hlg : g < w1.heap.size := cell_lt hcell1
     have HO2 : Hid ((w1.alloc (.cells #[.int .i64 x] 3)).ownsRow (w.heap.size + 2) 3 1 (.slice ao out.length co) out.length (ints (nats out))) := ownsRow_below (ownsRow_below hout hb1) ((Below.refl _ _).alloc (Nat.le_refl _) _)
     have HG2 : Hid ((w1.alloc (.cells #[.int .i64 x] 3)).ownsRow (w.heap.size + 2) 3 1 (.slice (some ⟨g, 0, none⟩) L.length cg) L.length (ints (nats L))) := ownsRow_below (ownsRow_below hown hb1) ((Below.refl _ _).alloc (Nat.le_refl _) _)
     have HX2 : Hid (Boxed (w1.alloc (.cells #[.int .i64 x] 3)) (w.heap.size + 1) 29 (.slice (some ⟨g, 0, none⟩) L.length cg)) := hbx1.alloc _
     have HNE : Hid (some (w.heap.size + 1) ≠ (Value.slice ao out.length co).ownBlock) := fun e => by have := (hout.lt _ e.symm).1; omega
     have HSRC : Hid (SrcAt (w1.alloc (.cells #[.int .i64 x] 3)) (.slice (some ⟨w1.heap.size, 0, none⟩) 1 1) 1 1 [.int .i64 x]) := by
       refine SrcAt.one _ _ _ [.int .i64 x] fun j u hu => ?_
       cases j with
       | zero => simp at hu; subst hu; simp [go_sem]
       | succ j => simp at hu
     have HONE : Hid (∀ u ∈ [Value.int .i64 (x : Int)], u.oneCell' = true) := by
       intro u hu; simp at hu; subst hu; rfl
     have HBS : Hid (w.heap.size + 2 ≤ (w1.alloc (.cells #[.int .i64 x] 3)).heap.size) := by show _ ≤ _; simp; omega
     have HD := Lib.hid hdis
     have HB := Lib.hid (And.intro hB hb1)
     clear hbx hown hout hdis hB hbx1 hb1
     go_wp2_with (at_builtin; refine wpList_app rfl _ _ _ rfl (w.heap.size + 2) 3 (.int .i64 0) 1 8 Tryz.underlying29 info_int rfl (by decide) _ out.length (ints (nats out)) rfl HO2.out _ 1 [.int .i64 x] rfl HSRC.out HONE.out (by omega) (by omega) HBS.out ?_; intro a' c' w2 hown2 hgrow2 hat2; have hbx2 := HX2.out.kept hgrow2 HNE.out; have hcx2 := hbx2.cell)
     have hg2 := HG2.out.kept hgrow2 HD.out
     have hdel := delete_call hg2 hkl (by omega)
     have HG3 := Lib.hid hg2
     have HB2 := Lib.hid (And.intro hbx2 (And.intro hown2 (And.intro hgrow2 hat2)))
     clear hg2 hbx2 hown2 hgrow2 hat2
     refine hdel.mono ?_
     rintro e w4 ⟨rfl, hown4, hgrow4⟩
     obtain ⟨hbx2, hown2, hgrow2, hat2⟩ := HB2.out
     have hneg : some (w.heap.size + 1) ≠ some g := fun e => by obtain rfl := Option.some.inj e; omega
     have hbx4 := hbx2.kept hgrow4 hneg
     have hcx4 := hbx4.cell
     have hfx4 := hbx4.frozen
     have hlt4 := hbx4.lt
     have H4 := Lib.hid (And.intro hown4 (And.intro hgrow4 hbx4))
     clear hbx2 hown2 hgrow2 hat2 hown4 hgrow4 hbx4
     go_wp2_with fail
     obtain ⟨hown4, hgrow4, hbx4⟩ := H4.out
     obtain ⟨hbx2, hown2, hgrow2, hat2⟩ := HB2.out
     obtain ⟨harr, harr2, hLn, _⟩ := HA.out
     have hel : (L.eraseIdx k).length = L.length - 1 := List.length_eraseIdx_of_lt hkl
     have hgo : (Value.slice a' (out.length + 1) c').ownBlock ≠ some g := by
       intro e
       rcases hat2 with e2 | e2
       · rcases HD.out with h | h
         · simp [Value.ownBlock] at h
         · exact h (Eq.trans (Eq.symm e) e2)
       · rw [e] at e2
         have := Option.some.inj e2
         simp at this
         omega
     have hao : (Value.slice a' (out.length + 1) c').ownBlock ≠ some (w.heap.size + 1) := fun e => by have := (hown2.lt _ e).1; omega
     have hB5 : Below (w.heap.size + 1) (w.alloc (.cells #[.slice al ml cl, .slice ae me ce, .slice ar mr cr, .slice av mv cv] 78)) w4 :=
       Below.grown (Below.grown ((HB.out.1.trans (HB.out.2.mono (by omega))).alloc (by omega) _) hgrow2 (by simp; omega) (fun j hj => by have := (HO2.out.lt j hj).1; omega)) hgrow4 (by have := hgrow2.size; simp at this; omega) (fun j hj => by obtain rfl := Option.some.inj hj; omega)
     go_roundg (gk - 1)
     case measure => omega
     case rel =>
       refine ⟨L.eraseIdx k, out ++ [x], _, by omega, ?_, fun j hj => hLn j (List.mem_of_mem_eraseIdx hj), by simp; omega, hbx4.set _, ?_, ?_, .inr ?_, hB5.setCell (p := ⟨w.heap.size + 1, 0, none⟩) (by simp) _⟩
       · rw [hel, ← harr, harr2, HXX.out]; simp
       · rw [hel]
         exact hown4.kept (grownBy_setCell' w4 (w.heap.size + 1) _) (.inr fun e => hneg e.symm)
       · have := (hown2.kept hgrow4 (.inr hgo)).kept (grownBy_setCell' w4 (w.heap.size + 1) (.slice (some ⟨g, 0, none⟩) (L.length - 1) cg)) (.inr hao)
         simpa [ints, nats] using this
       · exact fun e => hgo e.symm
end Go.Proofs.Lg

namespace Go.Proofs.Lg
open Go Go.RowKit Go.Shelf Go.Maps
theorem plainElem_bool_inv {H : Type} {P : Program} {e : TypeId} (he : P.underlying e = some .bool) {v : Value} {z : DataW H × List MemPlace} (h : plainElem P e v = some z) : ∃ a, v = .bool a ∧ z = (.lit (.bool a), []) := by
 unfold plainElem at h
 rw [he] at h
 cases v <;> simp at h
 subst h
 exact ⟨_, rfl, rfl⟩
def SeenAt (w : World) (b : Nat) (S : List Nat) : Prop :=
 ∃ D : DataW Unit, w.ownsMap Tryz.prog 3 (plainElem Tryz.prog 4) b S.length D ∧ ∀ i : Nat, D.atKey (.int .i64 i) (.lit (.bool false)) = .lit (.bool (S.contains i))
theorem SeenAt.kept {w w' : World} {b : Nat} {S : List Nat} {row : Option Nat} (h : SeenAt w b S) (hg : w.grownBy w' row) (hne : some b ≠ row) : SeenAt w' b S := by
 obtain ⟨D, h1, h2⟩ := h
 exact ⟨D, h1.kept hg hne, h2⟩
theorem SeenAt.alloc {w : World} {b : Nat} {S : List Nat} (h : SeenAt w b S) (o : Obj) : SeenAt (w.alloc o) b S := h.kept (World.grownBy_alloc w o none) (by simp)
theorem SeenAt.lt {w : World} {b : Nat} {S : List Nat} (h : SeenAt w b S) : b < w.heap.size := by obtain ⟨D, h1, _⟩ := h; exact h1.lt
theorem SeenAt.drewN {w : World} {b : Nat} {S : List Nat} (h : SeenAt w b S) (q : Nat) : SeenAt (w.drewN q) b S := h
theorem SeenAt.made (w : World) : SeenAt (w.alloc (.map #[] 0)) w.heap.size [] := ⟨.map [], World.ownsMap_made w _ _ _, fun _ => rfl⟩
theorem under_int : Tryz.prog.underlying 3 = some (.int .i64) := Tryz.underlying3
theorem under_bool : Tryz.prog.underlying 4 = some .bool := Tryz.underlying4
theorem wf_nat {i : Nat} (h : i ≤ 1000000) : (Lit.int .i64 (i : Int)).wf = true := by
 have : (Lit.int .i64 (wrap64 (i : Int))).wf = true := wrap64_wf i
 rwa [show wrap64 (i : Int) = i by unfold wrap64; omega] at this
theorem wpList_seen_look (w : World) {ops : Array Oper} {rest : List Oper} {o : Oper} {a : Act} {Q : Exit → Act → World → Prop}
   (hg : o.guard = none) (m x : Operand) (t : TypeId) (hop : o.op = Op.lookup t m x false) (ht : Tryz.prog.underlying t = some (.map 3 4)) (b : Nat) (S : List Nat) (hs : SeenAt w b S) (hm : a.eval m = .map (some b)) (i : Nat) (hi : i ≤ 1000000) (hx : a.eval x = .int .i64 i) (c0 : Bool) (hc0 : S.contains i = c0)
   (hK : wpList Tryz.prog ops Q rest (a.put o.dst (.bool c0)) w) :
   wpList Tryz.prog ops Q (o :: rest) a w := by
 refine wpList_plain hg fun K' hK' => ?_
 obtain ⟨D, h1, h2⟩ := hs
 have hz : (zeroValue 4).run Tryz.prog w = .ok (.bool false) w := by simp [go_sem]
 have hkey := keyOf_int_mk under_int (wf_nat hi)
 have h3 := h2 i
 generalize Value.int .i64 (i : Int) = key at hx hkey
 rw [hc0] at h3
 obtain ⟨v, ps, hrun, hv⟩ := h1.lookup (int_keyed under_int) ht hz (plainElem_bool under_bool false) hkey
 obtain ⟨c, rfl, hc⟩ := plainElem_bool_inv under_bool hv
 simp only [Prod.mk.injEq] at hc
 rw [hc.1] at h3
 obtain rfl : c = c0 := by simpa using h3
 unfold Oper.wp
 simp [execOp, hop, hm, hx, hrun, Result.andThen]
 exact hK' _ _ hK
theorem wpList_seen_store (w : World) {ops : Array Oper} {rest : List Oper} {o : Oper} {a : Act} {Q : Exit → Act → World → Prop}
   (hg : o.guard = none) (m x v : Operand) (t : TypeId) (hop : o.op = Op.mapUpdate t m x v) (ht : Tryz.prog.underlying t = some (.map 3 4)) (b : Nat) (S : List Nat) (hs : SeenAt w b S) (hm : a.eval m = .map (some b)) (i : Nat) (hi : i ≤ 1000000) (hx : a.eval x = .int .i64 i) (hv : a.eval v = .bool true) (hn : S.length ≤ 1000000)
   (hK : ∀ w', SeenAt w' b (i :: S) → w.grownBy w' (some b) → wpList Tryz.prog ops Q rest (a.put o.dst undef) w') :
   wpList Tryz.prog ops Q (o :: rest) a w := by
 obtain ⟨D, h1, h2⟩ := hs
 refine wpList_mapUpdate_own w hg m x v t hop 3 4 (int_keyed under_int) ht _ b _ D hm h1 (by unfold maxLen; omega) _ _ (.int .i64 i) hx hv (keyOf_int_mk under_int (wf_nat hi)) _ [] (plainElem_bool under_bool true) fun w' h3 h4 => hK w' ⟨_, h3, fun j => ?_⟩ h4
 by_cases hj : j = i
 · subst hj
   rw [atKey_put_same h1.isMap (by simp [WideAt.IsKeyLit])]
   simp
 · rw [atKey_put_other (by simp; omega), h2 j]
   simp [hj]
end Go.Proofs.Lg

namespace Go.Proofs.Lg
open Go Go.RowKit Go.Shelf
def adj (rows : List (List Bool)) (i j : Nat) : Bool := relat rows i j || (rel rows i j && rel rows j i)
def vstep (rows : List (List Bool)) (i : Nat) (G : List Nat → Nat → List Nat × List Nat) (c : List Nat × List Nat) (j : Nat) : List Nat × List Nat :=
 if !c.2.contains j && adj rows i j then (c.1 ++ (G c.2 j).1, (G c.2 j).2) else c
def visit (rows : List (List Bool)) (l : List Nat) : Nat → List Nat → Nat → List Nat × List Nat
 | 0, S, i => l.foldl (vstep rows i fun S _ => ([], S)) ([i], i :: S)
 | f + 1, S, i => l.foldl (vstep rows i (visit rows l f)) ([i], i :: S)
def unseen (l S : List Nat) : Nat := (l.filter fun j => !S.contains j).length
theorem unseen_le (l S : List Nat) : unseen l S ≤ l.length := List.length_filter_le _ _
theorem unseen_step (x : Nat) (l S : List Nat) : unseen (x :: l) S = unseen l S + if S.contains x = true then 0 else 1 := by
 unfold unseen
 rw [List.filter_cons]
 cases S.contains x <;> rfl
theorem contains_step (x j : Nat) (S : List Nat) : (j :: S).contains x = (decide (x = j) || S.contains x) := by
 rw [List.contains_cons]
 congr 1
theorem unseen_pos {l S : List Nat} {j : Nat} (hj : j ∈ l) (hs : S.contains j = false) : 0 < unseen l S := by
 unfold unseen
 exact List.length_pos_of_mem (List.mem_filter.2 ⟨hj, by rw [hs]; rfl⟩)
theorem unseen_cons_le (j : Nat) (S : List Nat) : ∀ l : List Nat, unseen l (j :: S) ≤ unseen l S
 | [] => Nat.le_refl _
 | x :: l => by
   have ih := unseen_cons_le j S l
   rw [unseen_step, unseen_step, contains_step]
   by_cases h1 : S.contains x = true
   · rw [h1, Bool.or_true]; omega
   · rw [if_neg h1]
     split <;> omega
theorem unseen_cons {S : List Nat} {j : Nat} (hs : S.contains j = false) : ∀ {l : List Nat}, j ∈ l → unseen l (j :: S) + 1 ≤ unseen l S
 | [], h => by cases h
 | x :: l, h => by
   rw [unseen_step, unseen_step, contains_step]
   by_cases hx : x = j
   · subst hx
     have := unseen_cons_le x S l
     rw [hs, decide_eq_true rfl, Bool.true_or, if_pos rfl, if_neg (by decide)]
     omega
   · have hj : j ∈ l := by
       rcases List.mem_cons.1 h with h | h
       · exact absurd h.symm hx
       · exact h
     have ih := unseen_cons hs hj
     rw [decide_eq_false hx, Bool.false_or]
     omega
structure VOk (l : List Nat) (S : List Nat) (r : List Nat × List Nat) : Prop where
 len : r.2.length = r.1.length + S.length
 sum : r.2.length + unseen l r.2 ≤ S.length + unseen l S
 mem : ∀ x ∈ r.1, x ∈ l
theorem vstep_ok {rows : List (List Bool)} {l S : List Nat} {i j : Nat} {G : List Nat → Nat → List Nat × List Nat} {c : List Nat × List Nat} (hc : VOk l S c) (hG : c.2.contains j = false → VOk l c.2 (G c.2 j)) : VOk l S (vstep rows i G c j) := by
 unfold vstep
 split
 · rename_i h
   have h1 : c.2.contains j = false := by simp at h; simpa using h.1
   have hg := hG h1
   have := hc.len; have := hc.sum; have := hg.len; have := hg.sum
   refine ⟨by simp; omega, by simp only; omega, fun x hx => ?_⟩
   rcases List.mem_append.1 hx with h | h
   · exact hc.mem x h
   · exact hg.mem x h
 · exact hc
theorem start_ok {l S : List Nat} {i : Nat} (hi : i ∈ l) (hs : S.contains i = false) : VOk l S ([i], i :: S) := by
 have := unseen_cons hs hi
 refine ⟨by simp; omega, by simp; omega, fun x hx => ?_⟩
 simp at hx
 subst hx
 exact hi
theorem foldl_ok {rows : List (List Bool)} {l S : List Nat} {i : Nat} {G : List Nat → Nat → List Nat × List Nat} : ∀ (t : List Nat) (c : List Nat × List Nat), (∀ j ∈ t, j ∈ l) → VOk l S c → (∀ S' j, j ∈ l → S'.contains j = false → S'.length + unseen l S' ≤ S.length + unseen l S → S.length + 1 ≤ S'.length → VOk l S' (G S' j)) → S.length + 1 ≤ c.2.length → VOk l S (t.foldl (vstep rows i G) c)
 | [], _, _, hc, _, _ => hc
 | j :: t, c, ht, hc, hG, h1 => by
   have hst := vstep_ok (rows := rows) (i := i) (G := G) hc (fun h => hG c.2 j (ht j (by simp)) h hc.sum h1)
   refine foldl_ok t _ (fun x hx => ht x (by simp [hx])) hst hG ?_
   have := hst.len
   have h2 := hc.len
   have : c.1.length ≤ (vstep rows i G c j).1.length := by unfold vstep; split <;> simp
   omega
theorem visit_ok (rows : List (List Bool)) (l : List Nat) : ∀ (f : Nat) (S : List Nat) (i : Nat), i ∈ l → S.contains i = false → VOk l S (visit rows l f S i)
 | 0, S, i, hi, hs => foldl_ok l _ (fun _ h => h) (start_ok hi hs) (fun S' j _ _ _ _ => ⟨by simp, by simp, by simp⟩) (by simp)
 | f + 1, S, i, hi, hs => foldl_ok l _ (fun _ h => h) (start_ok hi hs) (fun S' j hj hs' _ _ => visit_ok rows l f S' j hj hs') (by simp)
end Go.Proofs.Lg
