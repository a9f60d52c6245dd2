/-
  Part LG2 of this claim's proof. Joined by merge.py from the texts of wip/tpl.
-/
import Derived.Test.YtcegniopmpmpiaaGreatDoorGK
set_option linter.unusedVariables false
set_option linter.unusedSimpArgs false
set_option linter.unnecessarySimpa false
namespace Go.Proofs.Lh
open Go Go.Bb Go.RowKit Go.Proofs.Lg

theorem LinegraphOrder1_K {g : Gr} (hg : GrOk g) (hck : g.check = 0) (i j : Int) (s : List AObj) (hs : s[0]? = some (.cells [.d (dLines g.lines), .d (dEdges g.edges)])) :
    FnK Tryz.prog 7 [.d (.sc (.int .i64 i)), .d (.sc (.int .i64 j)), .ptr 0 0] s fun d s' => d = .d (dBool (beforeI g i j)) ∧ s' = s := by
  have h22 : 2 ≤ 2 := Nat.le_refl _
  refine FnK.of (F := k_LinegraphOrder1) (okb_LinegraphOrder1.trans (by kernel_rfl)) (by simp [k_LinegraphOrder1]) ?_
  simp only [k_LinegraphOrder1, hs, h22, ↓Both_true, ↓Both_false, wx, reduceCtorEq, reduceIte, Nat.reduceAdd, Nat.reduceEqDiff, Nat.reduceLT, Nat.reduceLeDiff, wj, ← List.map_take, ← List.map_drop]
  refine CallM.data (Before_fn hg hck i j) rfl ?_
  simp only [h22, hs, dBool, ↓Both_true, ↓Both_false, wx, reduceCtorEq, reduceIte, Nat.reduceAdd, Nat.reduceEqDiff, Nat.reduceLT, Nat.reduceLeDiff, wj, ← List.map_take, ← List.map_drop]

theorem fromRow_get {g : Gr} {i j : Nat} (h : (fromRow g.followers i).getD j false = true) : (fromRow g.followers i)[j]? = some true := by
  have hl := getD_false_lt h
  rw [List.getD_eq_getElem?_getD, List.getElem?_eq_getElem hl] at h
  rw [List.getElem?_eq_getElem hl]
  exact congrArg some h

theorem tmodN {a : Int} {n : Nat} (h : 0 ≤ a) (hn : 0 < n) : ∃ k : Nat, a.tmod (n : Int) = (k : Int) ∧ k < n := by
  obtain ⟨m, rfl⟩ := Int.eq_ofNat_of_zero_le h
  refine ⟨m % n, ?_, Nat.mod_lt _ hn⟩
  exact (Int.ofNat_tmod m n).symm

theorem beforeI_nat {g : Gr} {i j : Nat} (hi : i < g.lines.length) (hj : j < g.lines.length) : beforeI g i j = g.before i j := by
  unfold beforeI
  rw [if_pos (by omega)]; rfl

set_option maxRecDepth 10000 in
set_option maxHeartbeats 4000000 in
theorem orderLaw_fn (haw : AFn Tryz.prog 6 [] (.sc (.bool true))) {g : Gr} (hg : GrAny g) {a b c : Int} (ha : 0 ≤ a ∧ a < 256) (hb : 0 ≤ b ∧ b < 256) (hc : 0 ≤ c ∧ c < 256) : AFn Tryz.prog 3 [dGraph g, .agg [.sc (.int .u8 a), .sc (.int .u8 b), .sc (.int .u8 c)]] (.sc (.bool true)) := by
  have h22 : 2 ≤ 2 := Nat.le_refl _
  have hgr := Great_fn hg.okl hg.len hg.elen
  have hl0 := hg.len
  refine AFn_of (F := k_LinegraphOrder) (okb_LinegraphOrder.trans (by kernel_rfl)) (by simp [k_LinegraphOrder]) ?_
  simp only [k_LinegraphOrder, dGraph]
  rw [wpK_seq]
  generalize hQ1 : SeqQ _ _ = Q1
  simp only [h22, ↓Both_true, ↓Both_false, wx, reduceCtorEq, reduceIte, Nat.reduceAdd, Nat.reduceEqDiff, Nat.reduceLT, Nat.reduceLeDiff, wj, ← List.map_take, ← List.map_drop]
  subst hQ1
  simp only [SeqQ]
  rw [wpK_seq]
  generalize hQ2 : SeqQ _ _ = Q2
  simp only [h22, dLines, ↓Both_true, ↓Both_false, wx, reduceCtorEq, reduceIte, Nat.reduceAdd, Nat.reduceEqDiff, Nat.reduceLT, Nat.reduceLeDiff, wj, ← List.map_take, ← List.map_drop]
  subst hQ2
  simp only [SeqQ]
  rw [wpK_seq]
  generalize hQ3 : SeqQ _ _ = Q3
  simp only [h22, ↓Both_true, ↓Both_false, wx, reduceCtorEq, reduceIte, Nat.reduceAdd, Nat.reduceEqDiff, Nat.reduceLT, Nat.reduceLeDiff, wj, ← List.map_take, ← List.map_drop]
  refine CallM.data hgr rfl ?_
  cases hbig : g.big with
  | true =>
    simp only [h22, dBool, ↓Both_true, ↓Both_false, wx, reduceCtorEq, reduceIte, Nat.reduceAdd, Nat.reduceEqDiff, Nat.reduceLT, Nat.reduceLeDiff, wj, ← List.map_take, ← List.map_drop]
    refine CallM.data haw rfl ?_
    simp only [h22, dBool, ↓Both_true, ↓Both_false, wx, reduceCtorEq, reduceIte, Nat.reduceAdd, Nat.reduceEqDiff, Nat.reduceLT, Nat.reduceLeDiff, wj, ← List.map_take, ← List.map_drop]
    subst hQ3
    simp only [dBool, deepD, AV.toL, ↓Both_true, ↓Both_false, wx, reduceCtorEq, reduceIte, Nat.reduceAdd, Nat.reduceEqDiff, Nat.reduceLT, Nat.reduceLeDiff, wj, ← List.map_take, ← List.map_drop]
  | false =>
    have hok := hg.ok hbig
    simp only [h22, dBool, ↓Both_true, ↓Both_false, wx, reduceCtorEq, reduceIte, Nat.reduceAdd, Nat.reduceEqDiff, Nat.reduceLT, Nat.reduceLeDiff, wj, ← List.map_take, ← List.map_drop]
    refine CallM.data (refCheck_fn hok) rfl ?_
    by_cases hck : g.check = 0
    case neg =>
      have q1 : (g.check != 0) = true := by simpa using hck
      simp only [h22, q1, dBool, ↓Both_true, ↓Both_false, wx, reduceCtorEq, reduceIte, Nat.reduceAdd, Nat.reduceEqDiff, Nat.reduceLT, Nat.reduceLeDiff, wj, ← List.map_take, ← List.map_drop]
      refine CallM.data haw rfl ?_
      simp only [h22, dBool, ↓Both_true, ↓Both_false, wx, reduceCtorEq, reduceIte, Nat.reduceAdd, Nat.reduceEqDiff, Nat.reduceLT, Nat.reduceLeDiff, wj, ← List.map_take, ← List.map_drop]
      subst hQ3
      simp only [dBool, deepD, AV.toL, ↓Both_true, ↓Both_false, wx, reduceCtorEq, reduceIte, Nat.reduceAdd, Nat.reduceEqDiff, Nat.reduceLT, Nat.reduceLeDiff, wj, ← List.map_take, ← List.map_drop]
    have q1 : (g.check != 0) = false := by simp [hck]
    rcases Nat.eq_zero_or_pos g.lines.length with hn | hn
    · have q2 : ((g.lines.length : Int) == 0) = true := by simp [hn]
      simp only [h22, q1, q2, dBool, ↓Both_true, ↓Both_false, wx, reduceCtorEq, reduceIte, Nat.reduceAdd, Nat.reduceEqDiff, Nat.reduceLT, Nat.reduceLeDiff, wj, ← List.map_take, ← List.map_drop]
      refine CallM.data haw rfl ?_
      simp only [h22, dBool, ↓Both_true, ↓Both_false, wx, reduceCtorEq, reduceIte, Nat.reduceAdd, Nat.reduceEqDiff, Nat.reduceLT, Nat.reduceLeDiff, wj, ← List.map_take, ← List.map_drop]
      subst hQ3
      simp only [dBool, deepD, AV.toL, ↓Both_true, ↓Both_false, wx, reduceCtorEq, reduceIte, Nat.reduceAdd, Nat.reduceEqDiff, Nat.reduceLT, Nat.reduceLeDiff, wj, ← List.map_take, ← List.map_drop]
    · have q2 : ((g.lines.length : Int) == 0) = false := beq_eq_false_iff_ne.2 (by omega)
      simp only [h22, q1, q2, dBool, ↓Both_true, ↓Both_false, wx, reduceCtorEq, reduceIte, Nat.reduceAdd, Nat.reduceEqDiff, Nat.reduceLT, Nat.reduceLeDiff, wj, ← List.map_take, ← List.map_drop]
      subst hQ3
      simp only [SeqQ]
      rw [wpK_seq]
      generalize hQ4 : SeqQ _ _ = Q4
      have w1 : IntKind.i64.wrap a = a := wrap64_id ha.1 (by omega)
      have w2 : IntKind.i64.wrap b = b := wrap64_id hb.1 (by omega)
      have w3 : IntKind.i64.wrap c = c := wrap64_id hc.1 (by omega)
      have hnz : ((g.lines.length : Int) ≠ 0) := by omega
      obtain ⟨x, hx, hxl⟩ := tmodN ha.1 hn
      obtain ⟨y, hy, hyl⟩ := tmodN hb.1 hn
      obtain ⟨z, hz, hzl⟩ := tmodN hc.1 hn
      have r0 : rdIap 3 1 0 (.ptr 1 0) = some (.ptr 1 0) := by rfl
      have r1 : rdIap 3 1 1 (.ptr 1 0) = some (.ptr 1 1) := by rfl
      have r2 : rdIap 3 1 2 (.ptr 1 0) = some (.ptr 1 2) := by rfl
      have m0 : binS .rem (.int .i64 a) (.int .i64 g.lines.length) = some (.int .i64 x) := by unfold binS; simp only [hnz, hx, ne_eq, not_false_eq_true, and_self, if_true]
      have m1 : binS .rem (.int .i64 b) (.int .i64 g.lines.length) = some (.int .i64 y) := by unfold binS; simp only [hnz, hy, ne_eq, not_false_eq_true, and_self, if_true]
      have m2 : binS .rem (.int .i64 c) (.int .i64 g.lines.length) = some (.int .i64 z) := by unfold binS; simp only [hnz, hz, ne_eq, not_false_eq_true, and_self, if_true]
      simp only [h22, w1, w2, w3, r0, r1, r2, m0, m1, m2, ↓Both_true, ↓Both_false, wx, reduceCtorEq, reduceIte, Nat.reduceAdd, Nat.reduceEqDiff, Nat.reduceLT, Nat.reduceLeDiff, wj, ← List.map_take, ← List.map_drop]
      refine ⟨(ordF_coarse (by simp only [List.map_cons, List.map_nil, coarse_rd, coarse_wr]; rfl)), ?_⟩
      subst hQ4
      simp only [SeqQ]
      rw [wpK_seq]
      generalize hQ5 : SeqQ _ _ = Q5
      simp only [h22, ↓Both_true, ↓Both_false, wx, reduceCtorEq, reduceIte, Nat.reduceAdd, Nat.reduceEqDiff, Nat.reduceLT, Nat.reduceLeDiff, wj, ← List.map_take, ← List.map_drop]
      subst hQ5
      simp only [SeqQ]
      rw [wpK_seq]
      generalize hQ6 : SeqQ _ _ = Q6
      simp only [h22, ↓Both_true, ↓Both_false, wx, reduceCtorEq, reduceIte, Nat.reduceAdd, Nat.reduceEqDiff, Nat.reduceLT, Nat.reduceLeDiff, wj, ← List.map_take, ← List.map_drop]
      refine CallM.data (Reaches_fn hok) rfl ?_
      simp only [h22, dBoolss, ↓Both_true, ↓Both_false, wx, reduceCtorEq, reduceIte, Nat.reduceAdd, Nat.reduceEqDiff, Nat.reduceLT, Nat.reduceLeDiff, wj, ← List.map_take, ← List.map_drop]
      subst hQ6
      simp only [SeqQ]
      rw [wpK_seq]
      generalize hQ7 : SeqQ _ _ = Q7
      simp only [h22, dEdges, ↓Both_true, ↓Both_false, wx, reduceCtorEq, reduceIte, Nat.reduceAdd, Nat.reduceEqDiff, Nat.reduceLT, Nat.reduceLeDiff, wj, ← List.map_take, ← List.map_drop]
      have hrl : g.reach.length = g.lines.length := by unfold Gr.reach; rw [if_pos hck]; simp
      refine LoopK.countJ (fun k => [(49, .d (.sc (.int .i64 k))), (48, .d (.sc (.int .i64 g.edges.length))), (47, .d (.sl 2 (g.edges.map erow))), (5, .d (.sc (.int .i64 g.lines.length))), (6, .d (.sc (.int .i64 x))), (7, .d (.sc (.int .i64 y))), (8, .d (.sc (.int .i64 z))), (9, .clo 7 [] [.ptr 0 0]), (10, .d (.sl 1 (g.reach.map lbrow))), (2, .ptr 0 0)])
        (fun _ J => .cells [.d (.sl 35 (g.lines.map vrow)), .d (.sl 2 (g.edges.map erow))] :: .cells [.d (.sc (.int .u8 a)), .d (.sc (.int .u8 b)), .d (.sc (.int .u8 c))] :: J) (fun _ => True) g.edges.length [] (by simp [SubB, Go.Bb.look, intD]) rfl trivial fun k J hk _ => ?_
      by_cases hlt : k < g.edges.length
      · have h1 : decide ((k : Int) < (g.edges.length : Int)) = true := by simpa using hlt
        have h2 : g.edges[k]? = some g.edges[k] := List.getElem?_eq_getElem hlt
        have h3 : IntKind.i64.wrap ((k : Int) + 1) = ((k + 1 : Nat) : Int) := wrapN (by omega) (by have := hok.fewe; omega)
        have hmem : g.edges[k] ∈ g.edges := List.getElem_mem _
        have her : ∀ e : Int × Int, (erow e).length = 2 := fun _ => rfl
        generalize g.edges[k] = e at h2 hmem
        obtain ⟨e1, e2⟩ := e
        rw [wpK_seq]
        generalize hB1 : SeqQ _ _ = B1
        simp only [h1, ↓Both_true, ↓Both_false, wx, reduceCtorEq, reduceIte, Nat.reduceAdd, Nat.reduceEqDiff, Nat.reduceLT, Nat.reduceLeDiff, wj, ← List.map_take, ← List.map_drop]
        subst hB1
        simp only [SeqQ]
        rw [wpK_seq]
        generalize hB2 : SeqQ _ _ = B2
        simp only [↓Both_true, ↓Both_false, wx, reduceCtorEq, reduceIte, Nat.reduceAdd, Nat.reduceEqDiff, Nat.reduceLT, Nat.reduceLeDiff, wj, ← List.map_take, ← List.map_drop]
        subst hB2
        simp only [SeqQ]
        rw [wpK_seq]
        generalize hB3 : SeqQ _ _ = B3
        rw [wpK_block]
        generalize hB4 : BlockQ _ _ = B4
        rw [wpK_seq]
        generalize hB5 : SeqQ _ _ = B5
        simp only [h2, her, erow, h22, ↓Both_true, ↓Both_false, wx, reduceCtorEq, reduceIte, Nat.reduceAdd, Nat.reduceEqDiff, Nat.reduceLT, Nat.reduceLeDiff, wj, ← List.map_take, ← List.map_drop]
        subst hB5
        simp only [SeqQ]
        rw [wpK_seq]
        generalize hB6 : SeqQ _ _ = B6
        by_cases hp1 : 0 ≤ e1
        · have f1 : decide (e1 ≥ 0) = true := by simpa using hp1
          by_cases hp2 : 0 ≤ e2
          · have f2 : decide (e2 ≥ 0) = true := by simpa using hp2
            obtain ⟨k1, k2, k3⟩ := edge_reached hck hmem hp1 hp2
            obtain ⟨i, rfl⟩ := Int.eq_ofNat_of_zero_le hp1
            obtain ⟨j, rfl⟩ := Int.eq_ofNat_of_zero_le hp2
            dsimp only [Int.toNat_natCast] at k1 k2 k3
            have g1 := reach_get hck k1
            have g2 := fromRow_get k3
            have g3 : (fromRow g.followers i).length = g.lines.length := by rw [fromRow_length, g.followers_length]
            have f3 : decide ((i : Int) ≥ (g.reach.length : Int)) = false := by rw [hrl]; simpa using k1
            have f4 : decide ((j : Int) ≥ ((fromRow g.followers i).length : Int)) = false := by rw [g3]; simpa using k2
            generalize fromRow g.followers i = row at *
            simp only [lbrow, f1, f2, f3, f4, g1, g2, ↓Both_true, ↓Both_false, wx, reduceCtorEq, reduceIte, Nat.reduceAdd, Nat.reduceEqDiff, Nat.reduceLT, Nat.reduceLeDiff, wj, ← List.map_take, ← List.map_drop]
            refine ⟨(ordF_coarse (by simp only [List.map_cons, List.map_nil, coarse_rd, coarse_wr]; rfl)), ?_⟩
            subst hB6
            simp only [SeqQ, ↓Both_true, ↓Both_false, wx, reduceCtorEq, reduceIte, Nat.reduceAdd, Nat.reduceEqDiff, Nat.reduceLT, Nat.reduceLeDiff, wj, ← List.map_take, ← List.map_drop]
            subst hB4
            simp only [BlockQ]
            subst hB3
            simp only [SeqQ, h3, hlt, ↓Both_true, ↓Both_false, wx, reduceCtorEq, reduceIte, Nat.reduceAdd, Nat.reduceEqDiff, Nat.reduceLT, Nat.reduceLeDiff, wj, ← List.map_take, ← List.map_drop]
            exact ⟨_, rfl⟩
          · have f2 : decide (e2 ≥ 0) = false := by simpa using hp2
            simp only [lbrow, f1, f2, undef, ↓Both_true, ↓Both_false, wx, reduceCtorEq, reduceIte, Nat.reduceAdd, Nat.reduceEqDiff, Nat.reduceLT, Nat.reduceLeDiff, wj, ← List.map_take, ← List.map_drop]
            refine ⟨(ordF_coarse (by simp only [List.map_cons, List.map_nil, coarse_rd, coarse_wr]; rfl)), ?_⟩
            subst hB6
            simp only [SeqQ, ↓Both_true, ↓Both_false, wx, reduceCtorEq, reduceIte, Nat.reduceAdd, Nat.reduceEqDiff, Nat.reduceLT, Nat.reduceLeDiff, wj, ← List.map_take, ← List.map_drop]
            subst hB4
            simp only [BlockQ]
            subst hB3
            simp only [SeqQ, h3, hlt, ↓Both_true, ↓Both_false, wx, reduceCtorEq, reduceIte, Nat.reduceAdd, Nat.reduceEqDiff, Nat.reduceLT, Nat.reduceLeDiff, wj, ← List.map_take, ← List.map_drop]
            exact ⟨_, rfl⟩
        · have f1 : decide (e1 ≥ 0) = false := by simpa using hp1
          simp only [lbrow, f1, undef, ↓Both_true, ↓Both_false, wx, reduceCtorEq, reduceIte, Nat.reduceAdd, Nat.reduceEqDiff, Nat.reduceLT, Nat.reduceLeDiff, wj, ← List.map_take, ← List.map_drop]
          refine ⟨(ordF_coarse (by simp only [List.map_cons, List.map_nil, coarse_rd, coarse_wr]; rfl)), ?_⟩
          subst hB6
          simp only [SeqQ, ↓Both_true, ↓Both_false, wx, reduceCtorEq, reduceIte, Nat.reduceAdd, Nat.reduceEqDiff, Nat.reduceLT, Nat.reduceLeDiff, wj, ← List.map_take, ← List.map_drop]
          subst hB4
          simp only [BlockQ]
          subst hB3
          simp only [SeqQ, h3, hlt, ↓Both_true, ↓Both_false, wx, reduceCtorEq, reduceIte, Nat.reduceAdd, Nat.reduceEqDiff, Nat.reduceLT, Nat.reduceLeDiff, wj, ← List.map_take, ← List.map_drop]
          exact ⟨_, rfl⟩
      · have h1 : decide ((k : Int) < (g.edges.length : Int)) = false := by simpa using hlt
        simp only [h1, ↓Both_true, ↓Both_false, wx, reduceCtorEq, reduceIte, Nat.reduceAdd, Nat.reduceEqDiff, Nat.reduceLT, Nat.reduceLeDiff, wj, ← List.map_take, ← List.map_drop]
        subst hQ7
        simp only [SeqQ]
        have e0 : beforeI g x x = false := by rw [beforeI_nat hxl hxl]; exact before_self g x
        have e1 : beforeI g x g.lines.length = false := by unfold beforeI; rw [if_neg (by omega)]
        have e2 : beforeI g (-1) x = false := by unfold beforeI; rw [if_neg (by omega)]
        have e3 : beforeI g x y = true → beforeI g y x = false := by rw [beforeI_nat hxl hyl, beforeI_nat hyl hxl]; exact before_asym g
        have e4 : beforeI g x y = true → beforeI g y z = true → beforeI g x z = true := by rw [beforeI_nat hxl hyl, beforeI_nat hyl hzl, beforeI_nat hxl hzl]; exact before_trans hck hxl hyl hzl
        rw [wpK_seq]
        generalize hB7 : SeqQ _ _ = B7
        simp only [dBool, undef, ↓Both_true, ↓Both_false, wx, reduceCtorEq, reduceIte, Nat.reduceAdd, Nat.reduceEqDiff, Nat.reduceLT, Nat.reduceLeDiff, wj, ← List.map_take, ← List.map_drop]
        refine CallM.fn ?_
        refine (LinegraphOrder1_K hok hck _ _ _ rfl).mono ?_
        rintro d s' ⟨rfl, rfl⟩
        simp only [e0, dBool, undef, ↓Both_true, ↓Both_false, wx, reduceCtorEq, reduceIte, Nat.reduceAdd, Nat.reduceEqDiff, Nat.reduceLT, Nat.reduceLeDiff, wj, ← List.map_take, ← List.map_drop]
        cases h5 : beforeI g x y with
        | false =>
          refine CallM.fn ?_
          refine (LinegraphOrder1_K hok hck _ _ _ rfl).mono ?_
          rintro d s' ⟨rfl, rfl⟩
          simp only [h5, e1, e2, dBool, undef, ↓Both_true, ↓Both_false, wx, reduceCtorEq, reduceIte, Nat.reduceAdd, Nat.reduceEqDiff, Nat.reduceLT, Nat.reduceLeDiff, wj, ← List.map_take, ← List.map_drop]
          refine CallM.fn ?_
          refine (LinegraphOrder1_K hok hck _ _ _ rfl).mono ?_
          rintro d s' ⟨rfl, rfl⟩
          simp only [h5, e1, e2, dBool, undef, ↓Both_true, ↓Both_false, wx, reduceCtorEq, reduceIte, Nat.reduceAdd, Nat.reduceEqDiff, Nat.reduceLT, Nat.reduceLeDiff, wj, ← List.map_take, ← List.map_drop]
          refine CallM.fn ?_
          refine (LinegraphOrder1_K hok hck _ _ _ rfl).mono ?_
          rintro d s' ⟨rfl, rfl⟩
          simp only [h5, e1, e2, dBool, undef, ↓Both_true, ↓Both_false, wx, reduceCtorEq, reduceIte, Nat.reduceAdd, Nat.reduceEqDiff, Nat.reduceLT, Nat.reduceLeDiff, wj, ← List.map_take, ← List.map_drop]
          refine CallM.fn ?_
          refine (LinegraphOrder1_K hok hck _ _ _ rfl).mono ?_
          rintro d s' ⟨rfl, rfl⟩
          simp only [h5, e1, e2, dBool, undef, ↓Both_true, ↓Both_false, wx, reduceCtorEq, reduceIte, Nat.reduceAdd, Nat.reduceEqDiff, Nat.reduceLT, Nat.reduceLeDiff, wj, ← List.map_take, ← List.map_drop]
          refine CallM.data haw rfl ?_
          simp only [dBool, undef, deepD, AV.toL, ↓Both_true, ↓Both_false, wx, reduceCtorEq, reduceIte, Nat.reduceAdd, Nat.reduceEqDiff, Nat.reduceLT, Nat.reduceLeDiff, wj, ← List.map_take, ← List.map_drop]
          subst hB7
          simp only [SeqQ, dBool, undef, deepD, AV.toL, ↓Both_true, ↓Both_false, wx, reduceCtorEq, reduceIte, Nat.reduceAdd, Nat.reduceEqDiff, Nat.reduceLT, Nat.reduceLeDiff, wj, ← List.map_take, ← List.map_drop]
        | true =>
          have e5 := e3 h5
          refine CallM.fn ?_
          refine (LinegraphOrder1_K hok hck _ _ _ rfl).mono ?_
          rintro d s' ⟨rfl, rfl⟩
          simp only [h5, e5, dBool, undef, ↓Both_true, ↓Both_false, wx, reduceCtorEq, reduceIte, Nat.reduceAdd, Nat.reduceEqDiff, Nat.reduceLT, Nat.reduceLeDiff, wj, ← List.map_take, ← List.map_drop]
          refine CallM.fn ?_
          refine (LinegraphOrder1_K hok hck _ _ _ rfl).mono ?_
          rintro d s' ⟨rfl, rfl⟩
          simp only [h5, e5, dBool, undef, ↓Both_true, ↓Both_false, wx, reduceCtorEq, reduceIte, Nat.reduceAdd, Nat.reduceEqDiff, Nat.reduceLT, Nat.reduceLeDiff, wj, ← List.map_take, ← List.map_drop]
          refine CallM.fn ?_
          refine (LinegraphOrder1_K hok hck _ _ _ rfl).mono ?_
          rintro d s' ⟨rfl, rfl⟩
          simp only [h5, e5, dBool, undef, ↓Both_true, ↓Both_false, wx, reduceCtorEq, reduceIte, Nat.reduceAdd, Nat.reduceEqDiff, Nat.reduceLT, Nat.reduceLeDiff, wj, ← List.map_take, ← List.map_drop]
          cases h6 : beforeI g y z with
          | false =>
            refine CallM.fn ?_
            refine (LinegraphOrder1_K hok hck _ _ _ rfl).mono ?_
            rintro d s' ⟨rfl, rfl⟩
            simp only [h5, e5, h6, e1, e2, dBool, undef, ↓Both_true, ↓Both_false, wx, reduceCtorEq, reduceIte, Nat.reduceAdd, Nat.reduceEqDiff, Nat.reduceLT, Nat.reduceLeDiff, wj, ← List.map_take, ← List.map_drop]
            refine CallM.fn ?_
            refine (LinegraphOrder1_K hok hck _ _ _ rfl).mono ?_
            rintro d s' ⟨rfl, rfl⟩
            simp only [h5, e5, h6, e1, e2, dBool, undef, ↓Both_true, ↓Both_false, wx, reduceCtorEq, reduceIte, Nat.reduceAdd, Nat.reduceEqDiff, Nat.reduceLT, Nat.reduceLeDiff, wj, ← List.map_take, ← List.map_drop]
            refine CallM.fn ?_
            refine (LinegraphOrder1_K hok hck _ _ _ rfl).mono ?_
            rintro d s' ⟨rfl, rfl⟩
            simp only [h5, e5, h6, e1, e2, dBool, undef, ↓Both_true, ↓Both_false, wx, reduceCtorEq, reduceIte, Nat.reduceAdd, Nat.reduceEqDiff, Nat.reduceLT, Nat.reduceLeDiff, wj, ← List.map_take, ← List.map_drop]
            refine CallM.data haw rfl ?_
            simp only [dBool, undef, deepD, AV.toL, ↓Both_true, ↓Both_false, wx, reduceCtorEq, reduceIte, Nat.reduceAdd, Nat.reduceEqDiff, Nat.reduceLT, Nat.reduceLeDiff, wj, ← List.map_take, ← List.map_drop]
            subst hB7
            simp only [SeqQ, dBool, undef, deepD, AV.toL, ↓Both_true, ↓Both_false, wx, reduceCtorEq, reduceIte, Nat.reduceAdd, Nat.reduceEqDiff, Nat.reduceLT, Nat.reduceLeDiff, wj, ← List.map_take, ← List.map_drop]
          | true =>
            have e6 := e4 h5 h6
            refine CallM.fn ?_
            refine (LinegraphOrder1_K hok hck _ _ _ rfl).mono ?_
            rintro d s' ⟨rfl, rfl⟩
            simp only [h5, e5, h6, e6, e1, e2, dBool, undef, ↓Both_true, ↓Both_false, wx, reduceCtorEq, reduceIte, Nat.reduceAdd, Nat.reduceEqDiff, Nat.reduceLT, Nat.reduceLeDiff, wj, ← List.map_take, ← List.map_drop]
            refine CallM.fn ?_
            refine (LinegraphOrder1_K hok hck _ _ _ rfl).mono ?_
            rintro d s' ⟨rfl, rfl⟩
            simp only [h5, e5, h6, e6, e1, e2, dBool, undef, ↓Both_true, ↓Both_false, wx, reduceCtorEq, reduceIte, Nat.reduceAdd, Nat.reduceEqDiff, Nat.reduceLT, Nat.reduceLeDiff, wj, ← List.map_take, ← List.map_drop]
            refine CallM.fn ?_
            refine (LinegraphOrder1_K hok hck _ _ _ rfl).mono ?_
            rintro d s' ⟨rfl, rfl⟩
            simp only [h5, e5, h6, e6, e1, e2, dBool, undef, ↓Both_true, ↓Both_false, wx, reduceCtorEq, reduceIte, Nat.reduceAdd, Nat.reduceEqDiff, Nat.reduceLT, Nat.reduceLeDiff, wj, ← List.map_take, ← List.map_drop]
            refine CallM.fn ?_
            refine (LinegraphOrder1_K hok hck _ _ _ rfl).mono ?_
            rintro d s' ⟨rfl, rfl⟩
            simp only [h5, e5, h6, e6, e1, e2, dBool, undef, ↓Both_true, ↓Both_false, wx, reduceCtorEq, reduceIte, Nat.reduceAdd, Nat.reduceEqDiff, Nat.reduceLT, Nat.reduceLeDiff, wj, ← List.map_take, ← List.map_drop]
            refine CallM.data haw rfl ?_
            simp only [dBool, undef, deepD, AV.toL, ↓Both_true, ↓Both_false, wx, reduceCtorEq, reduceIte, Nat.reduceAdd, Nat.reduceEqDiff, Nat.reduceLT, Nat.reduceLeDiff, wj, ← List.map_take, ← List.map_drop]
            subst hB7
            simp only [SeqQ, dBool, undef, deepD, AV.toL, ↓Both_true, ↓Both_false, wx, reduceCtorEq, reduceIte, Nat.reduceAdd, Nat.reduceEqDiff, Nat.reduceLT, Nat.reduceLeDiff, wj, ← List.map_take, ← List.map_drop]
end Go.Proofs.Lh
