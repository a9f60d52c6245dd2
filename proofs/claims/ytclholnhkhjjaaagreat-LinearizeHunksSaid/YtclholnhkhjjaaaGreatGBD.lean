/-
 LinearizeHunks holds: for all two graphs that can be read as data the Go function returns true, and the arguments read as they did. Conditions: none beyond the statement's own.
-/
import Derived.Test.YtclholnhkhjjaaaGreatGBC
import Derived.Test.YtclholnhkhjjaaaGreatRows
import Derived.ShutString
import Derived.ChangeOld
import Derived.Below
import Derived.Test.YtclholnhkhjjaaaGreatGAD
set_option linter.unusedVariables false
set_option linter.unusedSimpArgs false
set_option linter.unnecessarySimpa false
namespace Go.Proofs.Lh
open Go Go.Bb Go.RowKit Go.Proofs.Lg
theorem lsum_take (M : List Mt) (k : Nat) : lsum (M.take k) ≤ lsum M := by
 have := lsum_app (M.take k) (M.drop k)
 rw [List.take_append_drop] at this
 omega
theorem lsum_succ {M : List Mt} {k : Nat} (hk : k < M.length) : lsum (M.take (k + 1)) = lsum (M.take k) + M[k].len := by
 rw [List.take_succ_eq_append_getElem hk, lsum_app]
 simp [lsum]
theorem hits_len (f : Nat → Option Nat) (n : Nat) : hits f (List.range' 0 n) ≤ n := by
 unfold hits
 have := List.countP_le_length (p := fun i => (f i).isSome) (l := List.range' 0 n)
 rw [List.length_range'] at this
 exact this
set_option maxRecDepth 10000 in
set_option maxHeartbeats 4000000 in
theorem hunksLaw_fn {old new : Gr} (ho : GrAny old) (hn : GrAny new) : AFn Tryz.prog 6 [dGraph old, dGraph new] (dBool true) := by
 have hv1 := validLaw_fn ho
 have hv2 := validLaw_fn hn
 have h22 : 2 ≤ 2 := Nat.le_refl _
 have q0 : ((0 : Int) != 0) = false := by decide
 refine AFn_of (F := k_LinearizeHunks) (okb_LinearizeHunks.trans (by kernel_rfl)) (by simp [k_LinearizeHunks]) ?_
 simp only [k_LinearizeHunks, dGraph]
 rw [wpK_seq]
 generalize hQ1 : SeqQ _ _ = Q1
 simp only [h22, ↓Both_true, ↓Both_false, wx, reduceCtorEq, reduceIte, Nat.reduceAdd, Nat.reduceEqDiff, Nat.reduceLT, Nat.reduceLeDiff]
 subst hQ1
 simp only [SeqQ]
 rw [wpK_seq]
 generalize hQ2 : SeqQ _ _ = Q2
 simp only [h22, ↓Both_true, ↓Both_false, wx, reduceCtorEq, reduceIte, Nat.reduceAdd, Nat.reduceEqDiff, Nat.reduceLT, Nat.reduceLeDiff]
 refine CallM.data hv1 rfl ?_
 cases hb1 : validB old with
 | false =>
   simp only [h22, dBool, ↓Both_true, ↓Both_false, wx, reduceCtorEq, reduceIte, Nat.reduceAdd, Nat.reduceEqDiff, Nat.reduceLT, Nat.reduceLeDiff]
   refine CallM.data awake_fn rfl ?_
   simp only [h22, dBool, ↓Both_true, ↓Both_false, wx, reduceCtorEq, reduceIte, Nat.reduceAdd, Nat.reduceEqDiff, Nat.reduceLT, Nat.reduceLeDiff]
   subst hQ2
   simp only [dBool, deepD, AV.toL, ↓Both_true, ↓Both_false, wx, reduceCtorEq, reduceIte, Nat.reduceAdd, Nat.reduceEqDiff, Nat.reduceLT, Nat.reduceLeDiff]
 | true =>
   simp only [h22, dBool, ↓Both_true, ↓Both_false, wx, reduceCtorEq, reduceIte, Nat.reduceAdd, Nat.reduceEqDiff, Nat.reduceLT, Nat.reduceLeDiff]
   refine CallM.data hv2 rfl ?_
   cases hb2 : validB new with
   | false =>
     simp only [h22, dBool, ↓Both_true, ↓Both_false, wx, reduceCtorEq, reduceIte, Nat.reduceAdd, Nat.reduceEqDiff, Nat.reduceLT, Nat.reduceLeDiff]
     refine CallM.data awake_fn rfl ?_
     simp only [h22, dBool, ↓Both_true, ↓Both_false, wx, reduceCtorEq, reduceIte, Nat.reduceAdd, Nat.reduceEqDiff, Nat.reduceLT, Nat.reduceLeDiff]
     subst hQ2
     simp only [dBool, deepD, AV.toL, ↓Both_true, ↓Both_false, wx, reduceCtorEq, reduceIte, Nat.reduceAdd, Nat.reduceEqDiff, Nat.reduceLT, Nat.reduceLeDiff]
   | true =>
     unfold validB at hb1 hb2
     rw [Bool.and_eq_true] at hb1 hb2
     have hbo : old.big = false := by simpa using hb1.1
     have hbn : new.big = false := by simpa using hb2.1
     have hco : old.check = 0 := by simpa using hb1.2
     have hcn : new.check = 0 := by simpa using hb2.2
     have o1 := ho.ok hbo
     have n1 := hn.ok hbn
     have hh := linHunks_fn o1 n1
     simp only [h22, dBool, ↓Both_true, ↓Both_false, wx, reduceCtorEq, reduceIte, Nat.reduceAdd, Nat.reduceEqDiff, Nat.reduceLT, Nat.reduceLeDiff]
     subst hQ2
     simp only [SeqQ]
     rw [wpK_seq]
     generalize hQ3 : SeqQ _ _ = Q3
     simp only [h22, ↓Both_true, ↓Both_false, wx, reduceCtorEq, reduceIte, Nat.reduceAdd, Nat.reduceEqDiff, Nat.reduceLT, Nat.reduceLeDiff]
     refine CallM.data hh rfl ?_
     simp only [h22, ↓Both_true, ↓Both_false, wx, reduceCtorEq, reduceIte, Nat.reduceAdd, Nat.reduceEqDiff, Nat.reduceLT, Nat.reduceLeDiff]
     subst hQ3
     simp only [SeqQ]
     rw [wpK_seq]
     generalize hQ4 : SeqQ _ _ = Q4
     have hr : hunksR old new = if (regionsL old.reach old.living).any Reg.conflict = true ∨ (regionsL new.reach new.living).any Reg.conflict = true then (([], 15) : List Hk × Int)
       else match mGo (fM old new (seqL old.reach old.living) (seqL new.reach new.living)) (List.range' 0 (seqL old.reach old.living).length) (-1) [] with
         | none => (([], 9) : List Hk × Int)
         | some l => (hGo (txtL old.lines (seqL old.reach old.living)) (txtL new.lines (seqL new.reach new.living)) 0 0 l, 0) := by
       unfold hunksR
       rw [if_neg (by simp [hco]), if_neg (by simp [hcn])]
       rfl
     rw [hr]
     have bad : ∀ e : Int, e = 15 ∨ e = 9 → (e != 0) = true ∧ ((e == 15) = true ∨ (e == 15) = false ∧ (e == 9) = true) := by
       rintro e (rfl | rfl)
       · exact ⟨by decide, .inl (by decide)⟩
       · exact ⟨by decide, .inr ⟨by decide, by decide⟩⟩
     by_cases hcf : (regionsL old.reach old.living).any Reg.conflict = true ∨ (regionsL new.reach new.living).any Reg.conflict = true
     · rw [if_pos hcf]
       have e1 : ((15 : Int) != 0) = true := by decide
       have e2 : ((15 : Int) == 15) = true := by decide
       have e3 : ((0 : Int) == 0) = true := by decide
       simp only [h22, e1, e2, e3, dHks, Int.natCast_zero, ↓Both_true, ↓Both_false, wx, reduceCtorEq, reduceIte, Nat.reduceAdd, Nat.reduceEqDiff, Nat.reduceLT, Nat.reduceLeDiff]
       refine CallM.data awake_fn rfl ?_
       subst hQ4
       simp only [dBool, deepD, AV.toL, ↓Both_true, ↓Both_false, wx, reduceCtorEq, reduceIte, Nat.reduceAdd, Nat.reduceEqDiff, Nat.reduceLT, Nat.reduceLeDiff]
     · rw [if_neg hcf]
       cases hg : mGo (fM old new (seqL old.reach old.living) (seqL new.reach new.living)) (List.range' 0 (seqL old.reach old.living).length) (-1) [] with
       | none =>
         have e1 : ((9 : Int) != 0) = true := by decide
         have e2 : ((9 : Int) == 15) = false := by decide
         have e2' : ((9 : Int) == 9) = true := by decide
         have e3 : ((0 : Int) == 0) = true := by decide
         simp only [h22, e1, e2, e2', e3, dHks, Int.natCast_zero, ↓Both_true, ↓Both_false, wx, reduceCtorEq, reduceIte, Nat.reduceAdd, Nat.reduceEqDiff, Nat.reduceLT, Nat.reduceLeDiff]
         refine CallM.data awake_fn rfl ?_
         subst hQ4
         simp only [dBool, deepD, AV.toL, ↓Both_true, ↓Both_false, wx, reduceCtorEq, reduceIte, Nat.reduceAdd, Nat.reduceEqDiff, Nat.reduceLT, Nat.reduceLeDiff]
       | some m =>
         obtain ⟨xs, ys, A, B, M, f, hL⟩ := lawF o1 n1 hbo hbn hcn hg
         dsimp only
         generalize hGo (txtL old.lines (seqL old.reach old.living)) (txtL new.lines (seqL new.reach new.living)) 0 0 m = l at *
         obtain ⟨⟨sa, u1, u2⟩, ⟨sb, u3, u4⟩, hap, hma, hal, hbl, hxl, hyl, hml, hsum, hxo, hyo⟩ := hL
         have hpair := linesOk_pair (linesOk_of_check hcn)
         have hokn := n1.okl
         have hfew := n1.few
         clear hg hr hcf bad hh hv1 hv2 hb1 hb2 hbo hbn hco hcn o1 n1 ho hn
         simp only [h22, q0, ↓Both_true, ↓Both_false, wx, reduceCtorEq, reduceIte, Nat.reduceAdd, Nat.reduceEqDiff, Nat.reduceLT, Nat.reduceLeDiff]
         subst hQ4
         simp only [SeqQ]
         rw [wpK_seq]
         generalize hQ5 : SeqQ _ _ = Q5
         simp only [h22, ↓Both_true, ↓Both_false, wx, reduceCtorEq, reduceIte, Nat.reduceAdd, Nat.reduceEqDiff, Nat.reduceLT, Nat.reduceLeDiff]
         refine CallM.data u1 rfl ?_
         simp only [h22, ↓Both_true, ↓Both_false, wx, reduceCtorEq, reduceIte, Nat.reduceAdd, Nat.reduceEqDiff, Nat.reduceLT, Nat.reduceLeDiff]
         refine CallM.data u2 rfl ?_
         simp only [h22, ↓Both_true, ↓Both_false, wx, reduceCtorEq, reduceIte, Nat.reduceAdd, Nat.reduceEqDiff, Nat.reduceLT, Nat.reduceLeDiff]
         refine ⟨(ordF_coarse (by simp only [List.map_cons, List.map_nil, coarse_rd, coarse_wr]; rfl)), ?_⟩
         subst hQ5
         simp only [SeqQ]
         rw [wpK_seq]
         generalize hQ6 : SeqQ _ _ = Q6
         simp only [h22, ↓Both_true, ↓Both_false, wx, reduceCtorEq, reduceIte, Nat.reduceAdd, Nat.reduceEqDiff, Nat.reduceLT, Nat.reduceLeDiff]
         refine CallM.data u3 rfl ?_
         simp only [h22, ↓Both_true, ↓Both_false, wx, reduceCtorEq, reduceIte, Nat.reduceAdd, Nat.reduceEqDiff, Nat.reduceLT, Nat.reduceLeDiff]
         refine CallM.data u4 rfl ?_
         simp only [h22, ↓Both_true, ↓Both_false, wx, reduceCtorEq, reduceIte, Nat.reduceAdd, Nat.reduceEqDiff, Nat.reduceLT, Nat.reduceLeDiff]
         refine ⟨(ordF_coarse (by simp only [List.map_cons, List.map_nil, coarse_rd, coarse_wr]; rfl)), ?_⟩
         subst hQ6
         simp only [SeqQ]
         rw [wpK_seq]
         generalize hQ7 : SeqQ _ _ = Q7
         simp only [↓Both_true, ↓Both_false, wx, reduceCtorEq, reduceIte, Nat.reduceAdd, Nat.reduceEqDiff, Nat.reduceLT, Nat.reduceLeDiff]
         refine CallM.data hap rfl ?_
         simp only [↓Both_true, ↓Both_false, wx, reduceCtorEq, reduceIte, Nat.reduceAdd, Nat.reduceEqDiff, Nat.reduceLT, Nat.reduceLeDiff]
         subst hQ7
         simp only [SeqQ]
         rw [wpK_seq]
         generalize hQ8 : SeqQ _ _ = Q8
         simp only [↓Both_true, ↓Both_false, wx, reduceCtorEq, reduceIte, Nat.reduceAdd, Nat.reduceEqDiff, Nat.reduceLT, Nat.reduceLeDiff]
         subst hQ8
         simp only [SeqQ]
         rw [wpK_seq]
         generalize hQ9 : SeqQ _ _ = Q9
         simp only [dStrs, ↓Both_true, ↓Both_false, wx, reduceCtorEq, reduceIte, Nat.reduceAdd, Nat.reduceEqDiff, Nat.reduceLT, Nat.reduceLeDiff]
         refine CallM.data hma rfl ?_
         simp only [dMts, ↓Both_true, ↓Both_false, wx, reduceCtorEq, reduceIte, Nat.reduceAdd, Nat.reduceEqDiff, Nat.reduceLT, Nat.reduceLeDiff, wj, ← List.map_take, ← List.map_drop]
         have hHn := hits_len f A.length
         refine LoopK.countJ (fun k => [(80, .d (.sc (.int .i64 k))), (79, .d (.sc (.int .i64 M.length))), (78, .d (.sl 3 (M.map dMt))), (15, .d (.sc (.int .i64 (lsum (M.take k) : Nat)))), (7, .d (.sl 1 (A.map strow))), (8, .d (.sl 33 (xs.map idR))), (10, .d (.sl 1 (B.map strow))), (11, .d (.sl 33 (ys.map idR))), (9, .d (.sc (.bool true))), (12, .d (.sc (.bool true))), (13, .d (.sl 1 (B.map strow))), (14, .d (.sc (.int .i64 0))), (3, .ptr 1 0)])
           (fun _ J => .cells [.d (dLines old.lines), .d (dEdges old.edges)] :: .cells [.d (dLines new.lines), .d (dEdges new.edges)] :: J) (fun _ => True) M.length [] (by simp [SubB, Go.Bb.look, intD, lsum]) rfl trivial fun k J hk _ => ?_
         by_cases hlt : k < M.length
         · have h1 : decide ((k : Int) < (M.length : Int)) = true := by simpa using hlt
           have h2 : M[k]? = some M[k] := List.getElem?_eq_getElem hlt
           have h3 : IntKind.i64.wrap ((k : Int) + 1) = ((k + 1 : Nat) : Int) := wrapN (by omega) (by omega)
           have h4 := lsum_succ hlt
           have h5 := lsum_take M (k + 1)
           generalize M[k] = mk at h2 h4
           have h6 : IntKind.i64.wrap ((lsum (M.take k) : Nat) + (mk.len : Int)) = ((lsum (M.take (k + 1)) : Nat) : Int) := by
             rw [h4]; exact addN (by omega) (by omega)
           have r33 : 3 ≤ 3 := Nat.le_refl _
           simp only [h1, h2, h3, h6, r33, hlt, dMt, ↓Both_true, ↓Both_false, wx, reduceCtorEq, reduceIte, Nat.reduceAdd, Nat.reduceEqDiff, Nat.reduceLT, Nat.reduceLeDiff, wj, ← List.map_take, ← List.map_drop]
           exact ⟨_, rfl⟩
         · have h1 : decide ((k : Int) < (M.length : Int)) = false := by simpa using hlt
           have h2 : M.take k = M := List.take_of_length_le (by omega)
           simp only [h1, h2, hsum, ↓Both_true, ↓Both_false, wx, reduceCtorEq, reduceIte, Nat.reduceAdd, Nat.reduceEqDiff, Nat.reduceLT, Nat.reduceLeDiff]
           subst hQ9
           simp only [SeqQ]
           rw [wpK_seq]
           generalize hQ10 : SeqQ _ _ = Q10
           simp only [↓Both_true, ↓Both_false, wx, reduceCtorEq, reduceIte, Nat.reduceAdd, Nat.reduceEqDiff, Nat.reduceLT, Nat.reduceLeDiff, wj, ← List.map_take, ← List.map_drop]
           clear hk hlt h1 h2
           refine LoopK.countJ (fun k => [(91, .d (.sc (.int .i64 k))), (90, .d (.sc (.int .i64 xs.length))), (89, .d (.sl 33 (xs.map idR))), (15, .d (.sc (.int .i64 ((hits f (List.range' 0 A.length) - hits f (List.range' 0 k) : Nat) : Int)))), (7, .d (.sl 1 (A.map strow))), (10, .d (.sl 1 (B.map strow))), (11, .d (.sl 33 (ys.map idR))), (9, .d (.sc (.bool true))), (12, .d (.sc (.bool true))), (13, .d (.sl 1 (B.map strow))), (14, .d (.sc (.int .i64 0))), (3, .ptr 1 0)])
             (fun _ J => .cells [.d (dLines old.lines), .d (dEdges old.edges)] :: .cells [.d (dLines new.lines), .d (dEdges new.edges)] :: J) (fun _ => True) xs.length J (by simp [SubB, Go.Bb.look, intD, hits]) rfl trivial fun k J hk _ => ?_
           by_cases hlt : k < xs.length
           · have h1 : decide ((k : Int) < (xs.length : Int)) = true := by simpa using hlt
             have h2 : xs[k]? = some xs[k] := List.getElem?_eq_getElem hlt
             have h3 : IntKind.i64.wrap ((k : Int) + 1) = ((k + 1 : Nat) : Int) := wrapN (by omega) (by omega)
             obtain ⟨okx, hAk, hfk⟩ := hxo k _ h2
             generalize xs[k] = x at *
             have i1 : (idR x).length = 33 := idR_len okx
             have i2 : (idR x).take 33 = idR x := List.take_of_length_le (by omega)
             have h33 : 33 ≤ 33 := Nat.le_refl _
             have hI := IndexId_fn ys (fun v hv => by obtain ⟨j, hj⟩ := List.mem_iff_getElem?.1 hv; exact (hyo j v hj).1) okx (by omega)
             have hs := hits_succ f k
             have hle := hits_le f (k := k + 1) (n := A.length) (by omega)
             rw [hfk] at hs
             have g1 : decide ((k : Int) < (A.length : Int)) = true := by simp; omega
             simp only [h1, h2, i1, i2, h33, List.append_nil, ↓Both_true, ↓Both_false, wx, reduceCtorEq, reduceIte, Nat.reduceAdd, Nat.reduceEqDiff, Nat.reduceLT, Nat.reduceLeDiff, wj, ← List.map_take, ← List.map_drop]
             refine CallM.data hI (by simp only [List.nil_append, List.append_nil, toDs, AV.toD, toLs_d, Option.map_some, Option.bind_some]; rfl) ?_
             cases hf : ys.findIdx? (sameId x) with
             | none =>
               have hi : idxI (sameId x) ys = -1 := by unfold idxI; rw [hf]
               have hb : hitB ys x = false := by unfold hitB; rw [hf]
               rw [hb] at hs
               have hs' : hits f (List.range' 0 (k + 1)) = hits f (List.range' 0 k) := by simpa using hs
               have g2 : decide ((-1 : Int) ≥ 0) = false := by decide
               rw [hi]
               simp only [h3, hlt, g2, hs', ↓Both_true, ↓Both_false, wx, reduceCtorEq, reduceIte, Nat.reduceAdd, Nat.reduceEqDiff, Nat.reduceLT, Nat.reduceLeDiff, wj, ← List.map_take, ← List.map_drop]
               exact ⟨(ordF_coarse (by simp only [List.map_cons, List.map_nil, coarse_rd, coarse_wr]; rfl)), _, rfl⟩
             | some k' =>
               obtain ⟨hk', _, _⟩ := List.findIdx?_eq_some_iff_getElem.1 hf
               have hy : ys[k']? = some ys[k'] := List.getElem?_eq_getElem hk'
               obtain ⟨oky, hBk⟩ := hyo k' _ hy
               have hi : idxI (sameId x) ys = (k' : Int) := by unfold idxI; rw [hf]
               have hb : hitB ys x = (x.text.toList == ys[k'].text.toList) := by unfold hitB; rw [hf]; dsimp only; rw [hy, Option.any_some]
               generalize ys[k'] = y at *
               have g2 : decide ((k' : Int) ≥ 0) = true := by simp
               have g3 : decide ((k' : Int) < (B.length : Int)) = true := by simp; omega
               rw [hi]
               cases hc : (x.text.toList == y.text.toList) with
               | true =>
                 rw [hb, hc] at hs
                 have hs' : hits f (List.range' 0 (k + 1)) = hits f (List.range' 0 k) + 1 := by simpa using hs
                 have g4 : IntKind.i64.wrap (((hits f (List.range' 0 A.length) - hits f (List.range' 0 k) : Nat) : Int) - 1) = ((hits f (List.range' 0 A.length) - hits f (List.range' 0 (k + 1)) : Nat) : Int) := wrapN (by omega) (by omega)
                 simp only [h3, hlt, g1, g2, g3, g4, hAk, hBk, hc, strow, ↓Both_true, ↓Both_false, wx, reduceCtorEq, reduceIte, Nat.reduceAdd, Nat.reduceEqDiff, Nat.reduceLT, Nat.reduceLeDiff, wj, ← List.map_take, ← List.map_drop]
                 exact ⟨(ordF_coarse (by simp only [List.map_cons, List.map_nil, coarse_rd, coarse_wr]; rfl)), _, rfl⟩
               | false =>
                 rw [hb, hc] at hs
                 have hs' : hits f (List.range' 0 (k + 1)) = hits f (List.range' 0 k) := by simpa using hs
                 simp only [h3, hlt, g1, g2, g3, hs', hAk, hBk, hc, strow, ↓Both_true, ↓Both_false, wx, reduceCtorEq, reduceIte, Nat.reduceAdd, Nat.reduceEqDiff, Nat.reduceLT, Nat.reduceLeDiff, wj, ← List.map_take, ← List.map_drop]
                 exact ⟨(ordF_coarse (by simp only [List.map_cons, List.map_nil, coarse_rd, coarse_wr]; rfl)), _, rfl⟩
           · have h1 : decide ((k : Int) < (xs.length : Int)) = false := by simpa using hlt
             obtain rfl : k = A.length := by omega
             have e0 : (((hits f (List.range' 0 A.length) - hits f (List.range' 0 A.length) : Nat) : Int) == 0) = true := by simp
             have e1 : ((0 : Int) == 0) = true := by decide
             simp only [h1, ↓Both_true, ↓Both_false, wx, reduceCtorEq, reduceIte, Nat.reduceAdd, Nat.reduceEqDiff, Nat.reduceLT, Nat.reduceLeDiff]
             subst hQ10
             simp only [SeqQ, ↓Both_true, ↓Both_false, wx, reduceCtorEq, reduceIte, Nat.reduceAdd, Nat.reduceEqDiff, Nat.reduceLT, Nat.reduceLeDiff, wj, ← List.map_take, ← List.map_drop]
             refine CallM.fn ?_
             refine (SortedVtx_fn new.lines hokn hpair hfew _).mono ?_
             rintro d s' ⟨rfl, rfl⟩
             simp only [dBool, e0, e1, ↓Both_true, ↓Both_false, wx, reduceCtorEq, reduceIte, Nat.reduceAdd, Nat.reduceEqDiff, Nat.reduceLT, Nat.reduceLeDiff, wj, ← List.map_take, ← List.map_drop]
             refine CallM.data (EqualStrings_fn B (by omega)) rfl ?_
             simp only [dBool, e0, e1, ↓Both_true, ↓Both_false, wx, reduceCtorEq, reduceIte, Nat.reduceAdd, Nat.reduceEqDiff, Nat.reduceLT, Nat.reduceLeDiff, wj, ← List.map_take, ← List.map_drop]
             refine CallM.data awake_fn rfl ?_
             simp only [dBool, deepD, AV.toL, ↓Both_true, ↓Both_false, wx, reduceCtorEq, reduceIte, Nat.reduceAdd, Nat.reduceEqDiff, Nat.reduceLT, Nat.reduceLeDiff, wj, ← List.map_take, ← List.map_drop]
end Go.Proofs.Lh

namespace Go.Proofs.Lh
open Go Go.RowKit Go.Proofs.Lg
open Go.Ab (RD)
theorem dGraph_in {w : World} {vl ve : Value} {g : Gr} (h : GrIn w vl ve g) : RD (Go.Bb.cellsIn w) w (.agg #[vl, ve]) (dGraph g) := by
 have h1 := RD_of_SlN h.lines (fun r hr => by obtain ⟨x, hx, rfl⟩ := List.mem_map.1 hr; exact vcells_ok (h.okl x hx)) (by omega)
 have h2 := RD_of_SlN h.edges (fun r hr => by
   obtain ⟨x, hx, rfl⟩ := List.mem_map.1 hr
   exact ⟨rfl, fun u hu => by unfold edgeCells at hu; simp at hu; rcases hu with rfl | rfl <;> rfl⟩) (by omega)
 rw [List.map_map] at h1 h2
 have e : (#[vl, ve] : Array Value) = [vl, ve].toArray := rfl
 rw [e]
 refine .agg [vl, ve] [dLines g.lines, dEdges g.edges] rfl (fun u hu => ?_) fun i u d hu hd => ?_
 · simp at hu
   rcases hu with rfl | rfl
   · exact h1.leaf rfl
   · exact h2.leaf rfl
 · match i with
   | 0 => simp at hu hd; subst hu; subst hd; exact h1
   | 1 => simp at hu hd; subst hu; subst hd; exact h2
   | i + 2 => simp at hu
theorem grAny_in {w : World} {vl ve : Value} {g : Gr} (h : GrIn w vl ve g) : GrAny g := by
 obtain ⟨a1, c1, _, k1, k2, _⟩ := h.lines
 obtain ⟨a2, c2, _, k3, k4, _⟩ := h.edges
 rw [List.length_map] at k1 k3
 exact ⟨h.okl, h.oke, by omega, by omega⟩
theorem hunks_walk (vl ve vl2 ve2 : Value) (g g2 : Gr) (w : World) (hg : GrIn w vl ve g) (hg2 : GrIn w vl2 ve2 g2) :
   Calls Tryz.prog 6 #[.agg #[vl, ve], .agg #[vl2, ve2]] w fun e w' => e = .returned (.bool true) ∧ Below w.heap.size w w' := by
 have h := hunksLaw_fn (grAny_in hg) (grAny_in hg2)
 refine (h.calls (Go.Bb.cellsIn w) w [.agg #[vl, ve], .agg #[vl2, ve2]] rfl fun i v d hv hd => ?_).mono fun e w' hh => ?_
 · match i with
   | 0 => simp at hv hd; subst hv; subst hd; exact dGraph_in hg
   | 1 => simp at hv hd; subst hv; subst hd; exact dGraph_in hg2
   | i + 2 => simp at hv
 · obtain ⟨v, he, hr, hb⟩ := hh
   have := RD_sc hr
   subst this
   exact ⟨he, hb⟩
end Go.Proofs.Lh
namespace Go.Proofs.YtclholnhkhjjaaaGreat
open Go.ChangeShapes Go.WideShapes Go.ChangeAt Go.RowKit Go.Proofs.Lg
theorem own : ownKnob Tryz.prog.godebug = none := by kernel_rfl
theorem laidOut : laidOutB Tryz.prog = true := by kernel_rfl
def HunksWalk : Prop := ∀ (vl ve vl2 ve2 : Value) (g g2 : Gr) (w : World), GrIn w vl ve g → GrIn w vl2 ve2 g2 → Calls Tryz.prog 6 #[.agg #[vl, ve], .agg #[vl2, ve2]] w fun e w' => e = .returned (.bool true) ∧ Below w.heap.size w w'
set_option maxRecDepth 100000 in
theorem linearizeHunks_lifted (walk : HunksWalk) (os : Os) (started : os.Started) (H : Type) (enc : TypeId × Value → H) :
   ReturnsInHanded {} Tryz.checked os 6 .any (Rows.linearizeHunksSpec.pre6 enc Tryz.prog Tryz.f6 Rows.linearizeHunksRow.domain false) (Rows.linearizeHunksSpec.post enc Tryz.prog Tryz.f6 false true false false) := by
 refine returnsInHanded_of_change (C := Tryz.checked) own started (by kernel_rfl) Tryz.func6
   (ChangeSpec.witness6 (enc := enc) (C := Tryz.checked) false ⟨#[], #[.agg #[.slice none 0 0, .slice none 0 0], .agg #[.slice none 0 0, .slice none 0 0]], []⟩ 8 (by kernel_rfl) (by kernel_rfl) (by kernel_rfl) (by kernel_rfl)) ?_
 intro W base args ds gs before hval0 hW hcnd _
 have hval : ∀ (j : Nat) t v, Tryz.f6.params[j]? = some t → args[j]? = some v → Value.okWide Tryz.prog W .any base t v := hval0
 have hW' := hW
 obtain ⟨p, q, hA0, hV, rfl, hfz, hnd⟩ := hW
 have hA : DataW.TrodAll enc Tryz.prog W 0 (fun _ => true) true Tryz.f6.params.toList args.toList ds p := hA0
 rw [Tryz.params6] at hA hval
 obtain ⟨v0, vs0, d0, ds0, p0, q0, hargs, rfl, rfl, h0, r0⟩ := trodAll_cons hA
 obtain ⟨v1, vs1, d1, ds1, p1, q1, hargs1, rfl, rfl, h1, r1⟩ := trodAll_cons r0
 obtain ⟨rfl, rfl, rfl⟩ := trodAll_nil r1
 obtain rfl : args = #[v0, v1] := by cases args; simp_all
 obtain ⟨rfl, rfl⟩ := trodVars_none hV
 have k0 := h0
 have k1 := h1
 have lt0 : ∀ x ∈ p0, x.block < W.heap.size := by obtain ⟨m, hm⟩ := k0; exact DataW.trod_lt m _ _ _ hm
 have lt1 : ∀ x ∈ p1, x.block < W.heap.size := by obtain ⟨m, hm⟩ := k1; exact DataW.trod_lt m _ _ _ hm
 obtain ⟨vl, ve, g, rfl, hg⟩ := graph_open (hval 0 25 v0 rfl rfl) h0
 obtain ⟨vl2, ve2, g2, rfl, hg2⟩ := graph_open (hval 1 25 v1 rfl rfl) h1
 clear hA0 hval0
 refine (walk vl ve vl2 ve2 g g2 W hg hg2).mono fun e W' ⟨he, bel⟩ => ?_
 subst he
 exact ⟨_, rfl, _, _, _, [], _, [], hW', trodAll_mk1 (shut_bool Tryz.underlying4 _), (trodAll_cons_mk (Below.trod laidOut (by kernel_rfl) (of_decide_eq_true (by kernel_rfl)) k0 bel lt0) (trodAll_cons_mk (Below.trod laidOut (by kernel_rfl) (of_decide_eq_true (by kernel_rfl)) k1 bel lt1) trodAll_mk0)), rfl, bel.frame _, fun h => by cases h⟩
theorem linearizeHunks_over (walk : HunksWalk) : Rows.linearizeHunksRow.holds Tryz.pinned (OpenSpec.ofChange Rows.linearizeHunksSpec) :=
 OpenClaim.holds_of_wide 6 Tryz.f6 rfl rfl rfl rfl rfl rfl rfl ⟨rfl, rfl, rfl, rfl, rfl⟩ rfl rfl rfl rfl rfl (by kernel_rfl) Tryz.func6 (by kernel_rfl)
   (of_decide_eq_true (by kernel_rfl)) (by unfold Func.isWrapper; first | (rw [if_pos (by decide +kernel)]; kernel_rfl) | (rw [if_neg (by decide +kernel)]; exact ⟨rfl, rfl⟩))
   (fun os started H enc _ => linearizeHunks_lifted walk os started H enc)
theorem linearizeHunks_holds : Rows.LinearizeHunksSaid := linearizeHunks_over fun vl ve vl2 ve2 g g2 w hg hg2 => Go.Proofs.Lh.hunks_walk vl ve vl2 ve2 g g2 w hg hg2
#print axioms linearizeHunks_holds
end Go.Proofs.YtclholnhkhjjaaaGreat
