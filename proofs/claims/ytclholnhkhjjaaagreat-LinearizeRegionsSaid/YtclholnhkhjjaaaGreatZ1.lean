/-
  Part Z1 of this claim's proof. Joined by merge.py from the texts of wip/tpl.
-/
import Derived.Test.YtclholnhkhjjaaaGreatY15
import Derived.Test.YtclholnhkhjjaaaGreatQ4
import Derived.Test.YtclholnhkhjjaaaGreatL5
import Derived.Test.YtclholnhkhjjaaaGreatL6
import Derived.Test.YtclholnhkhjjaaaGreatA1
import Derived.Test.YtclholnhkhjjaaaGreatZ0
set_option linter.unusedVariables false
set_option linter.unusedSimpArgs false
set_option linter.unnecessarySimpa false
namespace Go.Proofs.Lg
open Go Go.RowKit

theorem len_flatMap {α β : Type} (f : α → List β) : ∀ l : List α, (∀ x ∈ l, f x ≠ []) → l.length ≤ (l.flatMap f).length
  | [], _ => Nat.zero_le _
  | x :: l, h => by
    have h1 := len_flatMap f l fun y hy => h y (by simp [hy])
    have h2 := List.length_pos_iff.2 (h x (by simp))
    rw [List.flatMap_cons, List.length_append, List.length_cons]; omega
theorem len_flatMap_mem {α β : Type} (f : α → List β) : ∀ (l : List α) (x : α), x ∈ l → (f x).length ≤ (l.flatMap f).length
  | [], _, h => absurd h (by simp)
  | y :: l, x, h => by
    rw [List.flatMap_cons, List.length_append]
    rcases List.mem_cons.1 h with rfl | h
    · omega
    · have := len_flatMap_mem f l x h; omega

theorem reg_bounds (g : Gr) : (regionsL g.reach g.living).length ≤ g.lines.length ∧ ∀ r ∈ regionsL g.reach g.living, r.lines.length ≤ g.lines.length ∧ r.sides.length ≤ g.lines.length ∧ ∀ s ∈ r.sides, s.length ≤ g.lines.length := by
  have hg := (regionsL_good g.lv).1
  have hn : (seqL g.reach g.living).length ≤ g.lines.length := by rw [(seqL_perm g.lv).length_eq]; exact g.living_len
  unfold seqL at hn
  generalize regionsL g.reach g.living = regs at *
  have hfl : ∀ r : Reg, r.all.length = r.lines.length + r.sides.flatten.length := fun r => by unfold Reg.all; rw [List.length_append]
  have hid : ∀ l : List (List Nat), l.flatten = l.flatMap id := fun l => by simp [List.flatMap_id]
  refine ⟨Nat.le_trans (len_flatMap Reg.all regs fun r hr he => ?_) hn, fun r hr => ?_⟩
  · have h0 := hfl r
    rw [he] at h0
    simp only [List.length_nil] at h0
    rcases hg r hr with ⟨_, h, _⟩ | ⟨_, _, h, h'⟩
    · have := List.length_pos_iff.2 h; omega
    · have h2 := List.length_pos_iff.2 h
      have h3 := len_flatMap id r.sides h'
      rw [hid] at h0; omega
  · have h1 := len_flatMap_mem Reg.all regs r hr
    have h0 := hfl r
    refine ⟨by omega, ?_, fun s hs => ?_⟩
    · rcases hg r hr with ⟨_, _, h⟩ | ⟨_, _, h, h'⟩
      · rw [h]; exact Nat.zero_le _
      · have h3 := len_flatMap id r.sides h'
        rw [hid] at h0; omega
    · have h3 := len_flatMap_mem id r.sides s hs
      rw [hid] at h0
      have : (id s).length = s.length := rfl
      omega

set_option maxRecDepth 100000 in
set_option maxHeartbeats 4000000 in
theorem regions_walk (vl ve : Value) (g : Gr) (w : World) (hg : GrIn w vl ve g) :
    Calls Tryz.prog 3 #[.agg #[vl, ve]] w fun e w' => e = .returned (.bool true) ∧ Below w.heap.size w w' := by
  obtain ⟨al, cl, ml, rfl⟩ : ∃ a c m, vl = .slice a m c := by obtain ⟨a, c, h, _⟩ := hg.lines; exact ⟨a, c, _, h⟩
  obtain ⟨ae, ce, me, rfl⟩ : ∃ a c m, ve = .slice a m c := by obtain ⟨a, c, h, _⟩ := hg.edges; exact ⟨a, c, _, h⟩
  have hb0 : Below w.heap.size w ((w.alloc (.cells #[.slice al ml cl, .slice ae me ce] 25)).alloc (.cells #[.slice al ml cl, .slice ae me ce] 25)) := ((Below.refl _ _).alloc (Nat.le_refl _) _).alloc (by simp) _
  have HG := Lib.hid (great_one _ _ (w.heap.size + 1) 1 g _ (hg.below hb0) (by simp [go_sem]) (by simp [go_sem]))
  have HB0 := Lib.hid hb0
  have HI := Lib.hid hg
  have hx0 : ((w.alloc (.cells #[.slice al ml cl, .slice ae me ce] 25)).alloc (.cells #[.slice al ml cl, .slice ae me ce] 25)).cell? ⟨w.heap.size, 0, none⟩ = some (.slice al ml cl) := alloc_cell (by simp [go_sem]) _
  have hx1 : ((w.alloc (.cells #[.slice al ml cl, .slice ae me ce] 25)).alloc (.cells #[.slice al ml cl, .slice ae me ce] 25)).cell? ⟨w.heap.size, 1, none⟩ = some (.slice ae me ce) := alloc_cell (by simp [go_sem]) _
  have HX := Lib.hid (And.intro hx0 hx1)
  clear hg hb0 hx0 hx1
  cases hbig : g.big with
  | true =>
    rw [hbig] at HG
    clear hbig
    go_enter Tryz.func3, Tryz.ntmps3
    go_wp2_with (fail)
    refine HG.out.mono ?_
    rintro e w1 ⟨rfl, hb1⟩
    have HB1 : Hid (Below w.heap.size w w1) := HB0.out.trans (hb1.mono HB0.out.size)
    clear hb1
    go_wp2_with (fail)
    refine (awake_any w1).mono ?_
    rintro e w2 ⟨rfl, hb2⟩
    have HB2 : Hid (Below w.heap.size w w2) := HB1.out.trans (hb2.mono HB1.out.size)
    clear hb2
    go_wp2
    go_ret
    exact ⟨rfl, HB2.out⟩
  | false =>
    rw [hbig] at HG
    have HFW := Lib.hid (fun w' (h : GrIn w' (.slice al ml cl) (.slice ae me ce) g) => h.few hbig)
    obtain ⟨hrl, hrb⟩ := reg_bounds g
    have hfew : g.lines.length ≤ 1000000 := (HFW.out w HI.out).few
    have HRL : Hid ((regionsL g.reach g.living).length ≤ 1000000) := Nat.le_trans hrl hfew
    have HRS : Hid (∀ r ∈ regionsL g.reach g.living, r.sides.length ≤ 1000000) := fun r hr => Nat.le_trans (hrb r hr).2.1 hfew
    have HRF : Hid (∀ r ∈ regionsL g.reach g.living, Fits r) := fun r hr => ⟨by have := (hrb r hr).1; omega, by have := (hrb r hr).2.1; omega, fun s hs => by have := (hrb r hr).2.2 s hs; omega⟩
    have HSL : Hid ((nats (sortB g.reach (inL g.reach g.living g.living))).length ≤ 10000000) := by
      show _ ≤ _
      rw [nats_length, (sortB_perm _ _).length_eq]
      have e2 := List.length_filter_le (fun i => !unset g.reach g.living i) g.living
      have e3 := g.living_len
      unfold inL; omega
    have HQL : Hid ((nats (seqL g.reach g.living)).length ≤ 10000000) := by
      show _ ≤ _
      rw [nats_length, (seqL_perm g.lv).length_eq]
      have e3 := g.living_len
      omega
    clear hbig hrl hrb hfew
    go_enter Tryz.func3, Tryz.ntmps3
    go_wp2_with (fail)
    refine HG.out.mono ?_
    rintro e w1 ⟨rfl, hb1⟩
    have x0 := below_cell hb1 HX.out.1
    have x1 := below_cell hb1 HX.out.2
    have hl := cell_lt x0
    have HB1 : Hid (Below w.heap.size w w1) := HB0.out.trans (hb1.mono HB0.out.size)
    clear hb1
    go_wp2_with (fail)
    have HGA : Hid (∀ w', Keep w1 w' → GrAt w' (.slice al ml cl) (.slice ae me ce) g) := fun w' h => HFW.out w' (HI.out.below (HB1.out.trans (Below.mono h HB1.out.size)))
    obtain ⟨C, hC⟩ : ∃ C : World → Prop, C = fun w' => w'.cell? ⟨w.heap.size, 0, none⟩ = some (.slice al ml cl) ∧ w'.cell? ⟨w.heap.size, 1, none⟩ = some (.slice ae me ce) := ⟨_, rfl⟩
    have hC0 : C w1.drew := by rw [hC]; exact ⟨x0, x1⟩
    have HCC : Hid (∀ w', Below w1.heap.size w1 w' → C w') := fun w' h => by rw [hC]; exact ⟨below_cell h x0, below_cell h x1⟩
    have hCi : ∀ w', C w' → w'.cell? ⟨w.heap.size, 0, none⟩ = some (.slice al ml cl) ∧ w'.cell? ⟨w.heap.size, 1, none⟩ = some (.slice ae me ce) := fun w' h => by rw [hC] at h; exact h
    have hp0 : ∀ p : Cls C, p.w.cell? ⟨w.heap.size, 0, none⟩ = some (.slice al ml cl) := fun p => (hCi _ p.h).1
    have hp1 : ∀ p : Cls C, p.w.cell? ⟨w.heap.size, 1, none⟩ = some (.slice ae me ce) := fun p => (hCi _ p.h).2
    have hpl : ∀ p : Cls C, w.heap.size < p.w.heap.size := fun p => cell_lt (hp0 p)
    have hne : Nonempty (Cls C) := ⟨⟨_, hC0⟩⟩
    clear hC hCi
    refine wp_region_ord C 99 [(0, true), (2, true), (1, false), (3, false), (4, false), (5, true), (6, true), (8, true), (7, false), (9, false), (10, false), (11, true), (12, true), (13, true), (15, true), (14, false), (16, false), (17, false), (18, true), (19, true), (20, false), (21, true), (22, true)] (by kernel_rfl) (by kernel_rfl) hC0 ?_
    have HKw0 : Hid (Keep w1 w1.drew) := Keep.drew w1
    iterate 2 (refine wpOrd_pure_g rfl (fun _ _ _ _ h => h) (by rfl) (fun K hK => ?_); go_simp; refine hK _ ?_; clear hK K)
    refine wpOrd_eff_g rfl (by rfl) (fun K hK => ?_)
    go_simp
    refine (Settled_any _ _ g _ (HGA.out _ HKw0.out)).mono ?_
    rintro e w2 ⟨v1, rfl, hs1, hb⟩
    have HKw2 : Hid (Keep w1 w2) := Keep.trans HKw0.out hb
    refine hK _ _ (.inr (HCC.out _ HKw2.out)) ?_
    clear hK K
    clear hb
    refine wpOrd_eff_g rfl (by rfl) (fun K hK => ?_)
    go_simp
    refine (refSettled_any _ _ g _ (HGA.out _ HKw2.out)).mono ?_
    rintro e w3 ⟨v2, rfl, hs2, hb⟩
    have HKw3 : Hid (Keep w1 w3) := Keep.trans HKw2.out hb
    refine hK _ _ (.inr (HCC.out _ HKw3.out)) ?_
    clear hK K
    have hs1' := hs1.below hb
    clear hb hs1
    refine wpOrd_eff_g rfl (by rfl) (fun K hK => ?_)
    go_simp
    refine (refSameInts_true _ v1 v2 w3 hs1' hs2 HSL.out).mono ?_
    rintro e w4 ⟨rfl, hb⟩
    have HKw4 : Hid (Keep w1 w4) := Keep.trans HKw3.out hb
    refine hK _ _ (.inr (HCC.out _ HKw4.out)) ?_
    clear hK K
    clear hb hs1' hs2
    iterate 3 (refine wpOrd_pure_g rfl (fun _ _ _ _ h => h) (by rfl) (fun K hK => ?_); go_simp; refine hK _ ?_; clear hK K)
    refine wpOrd_eff_g rfl (by rfl) (fun K hK => ?_)
    go_simp
    refine (Regions_any _ _ g _ (HGA.out _ HKw4.out)).mono ?_
    rintro e w5 ⟨v3, rfl, hs3, hb⟩
    have HKw5 : Hid (Keep w1 w5) := Keep.trans HKw4.out hb
    refine hK _ _ (.inr (HCC.out _ HKw5.out)) ?_
    clear hK K
    clear hb
    refine wpOrd_eff_g rfl (by rfl) (fun K hK => ?_)
    go_simp
    refine (refRegions_any _ _ g _ (HGA.out _ HKw5.out)).mono ?_
    rintro e w6 ⟨v4, rfl, hs4, hb⟩
    have HKw6 : Hid (Keep w1 w6) := Keep.trans HKw5.out hb
    refine hK _ _ (.inr (HCC.out _ HKw6.out)) ?_
    clear hK K
    have hs3' := hs3.below hb
    clear hb hs3
    refine wpOrd_eff_g rfl (by rfl) (fun K hK => ?_)
    go_simp
    refine (refSame_true _ v3 v4 w6 hs3' hs4 HRF.out (Nat.le_trans HRL.out (by omega))).mono ?_
    rintro e w7 ⟨rfl, hb⟩
    have HKw7 : Hid (Keep w1 w7) := Keep.trans HKw6.out hb
    refine hK _ _ (.inr (HCC.out _ HKw7.out)) ?_
    clear hK K
    clear hb hs3' hs4
    iterate 4 (refine wpOrd_pure_g rfl (fun _ _ _ _ h => h) (by rfl) (fun K hK => ?_); go_simp; refine hK _ ?_; clear hK K)
    refine wpOrd_eff_g rfl (by rfl) (fun K hK => ?_)
    go_simp
    refine (Sequence_any _ _ g _ (HGA.out _ HKw7.out)).mono ?_
    rintro e w8 ⟨v5, rfl, hs5, hb⟩
    have HKw8 : Hid (Keep w1 w8) := Keep.trans HKw7.out hb
    refine hK _ _ (.inr (HCC.out _ HKw8.out)) ?_
    clear hK K
    clear hb
    refine wpOrd_eff_g rfl (by rfl) (fun K hK => ?_)
    go_simp
    refine (refSequence_any _ _ g _ (HGA.out _ HKw8.out) HRL.out HRS.out).mono ?_
    rintro e w9 ⟨v6, rfl, hs6, hb⟩
    have HKw9 : Hid (Keep w1 w9) := Keep.trans HKw8.out hb
    refine hK _ _ (.inr (HCC.out _ HKw9.out)) ?_
    clear hK K
    have hs5' := hs5.below hb
    clear hb hs5
    refine wpOrd_eff_g rfl (by rfl) (fun K hK => ?_)
    go_simp
    refine (refSameInts_true _ v5 v6 w9 hs5' hs6 HQL.out).mono ?_
    rintro e w10 ⟨rfl, hb⟩
    have HKw10 : Hid (Keep w1 w10) := Keep.trans HKw9.out hb
    refine hK _ _ (.inr (HCC.out _ HKw10.out)) ?_
    clear hK K
    clear hb hs5' hs6
    iterate 2 (refine wpOrd_pure_g rfl (fun _ _ _ _ h => h) (by rfl) (fun K hK => ?_); go_simp; refine hK _ ?_; clear hK K)
    refine wpOrd_eff_g rfl (by rfl) (fun K hK => ?_)
    go_simp
    refine (awake_any w10).mono ?_
    rintro e w11 ⟨rfl, hb⟩
    have HKw11 : Hid (Keep w1 w11) := Keep.trans HKw10.out hb
    refine hK _ _ (.inr (HCC.out _ HKw11.out)) ?_
    clear hK K
    clear hb
    iterate 2 (refine wpOrd_pure_g rfl (fun _ _ _ _ h => h) (by rfl) (fun K hK => ?_); go_simp; refine hK _ ?_; clear hK K)
    refine wpOrd_nil ?_
    go_wp2
    go_ret
    exact ⟨rfl, HB1.out.trans (Below.mono HKw11.out HB1.out.size)⟩
end Go.Proofs.Lg
