/-
  Part GBG of this claim's proof. Joined by merge.py from the texts of wip/tpl.
-/
import Derived.Test.YtclholnhkhjjaaaGreatGAJ
import Derived.Test.YtclholnhkhjjaaaGreatProg
import Derived.Test.YtclholnhkhjjaaaGreatGBF
set_option linter.unusedVariables false
set_option linter.unusedSimpArgs false
set_option linter.unnecessarySimpa false
namespace Go.Proofs.Lh
open Go Go.Ab Go.Bb
def k_refMatching : CF := ⟨113,
 (.seq
 (fo [o0 4 (.box (.t 0)), o0 5 (.box (.t 1)), o0 8 (.mov (.c (.nil 3))), o0 9 (.mov (.c (.d (.sc (.bool false)))))])
 (.seq
 (fo [o0 17 (.bsl true 65 3 0 [] []), om 10 17])
 (.seq
 (fo [o0 11 (.mov (xi (-1)))])
 (.seq
 (.seq
 (fo [o0 12 (.mov (xi 0))])
 (.block 0
 (.loop
 (.seq
 (.seq
 (fo [om 18 12, om 19 2, o0 20 (.len 0 (.t 19)), o0 21 (.bin .lss (.t 18) (.t 20))])
 (.cond (.t 21)
 .skip
 (.exit 0)))
 (.seq
 (.block 1
 (.seq
 (.ops true [0, 1, 0, 0, 12, 28, 63, 127, 0, 511] [o0 24 (.fad 0 (.t 4)), o0 25 (.ld none (.t 24)), om 26 2, om 27 12, o0 28 (.iad 1 (.t 26) (.t 27)), o0 29 (.ld none (.t 28)), o0 30 (.iad 35 (.t 25) (.t 29)), o0 31 (.ld (some 35) (.t 30)), o0 13 (.box (.c (.agg [(.d (.sc (.int .u8 0))), (.d (.sc (.int .u8 0))), (.d (.sc (.int .u8 0))), (.d (.sc (.int .u8 0))), (.d (.sc (.int .u8 0))), (.d (.sc (.int .u8 0))), (.d (.sc (.int .u8 0))), (.d (.sc (.int .u8 0))), (.d (.sc (.int .u8 0))), (.d (.sc (.int .u8 0))), (.d (.sc (.int .u8 0))), (.d (.sc (.int .u8 0))), (.d (.sc (.int .u8 0))), (.d (.sc (.int .u8 0))), (.d (.sc (.int .u8 0))), (.d (.sc (.int .u8 0))), (.d (.sc (.int .u8 0))), (.d (.sc (.int .u8 0))), (.d (.sc (.int .u8 0))), (.d (.sc (.int .u8 0))), (.d (.sc (.int .u8 0))), (.d (.sc (.int .u8 0))), (.d (.sc (.int .u8 0))), (.d (.sc (.int .u8 0))), (.d (.sc (.int .u8 0))), (.d (.sc (.int .u8 0))), (.d (.sc (.int .u8 0))), (.d (.sc (.int .u8 0))), (.d (.sc (.int .u8 0))), (.d (.sc (.int .u8 0))), (.d (.sc (.int .u8 0))), (.d (.sc (.int .u8 0))), (.d (.sc (.int .i64 0))), (.d (.sc (.string ⟨#[]⟩))), (.d (.sc (.bool false)))]))), oN (.st 35 (.t 13) (.t 31))])
 (.seq
 (fo [o0 14 (.mov (xi 0))])
 (.block 2
 (.loop
 (.seq
 (.seq
 (fo [om 32 14, om 33 3, o0 34 (.len 0 (.t 33)), o0 35 (.bin .lss (.t 32) (.t 34))])
 (.cond (.t 35)
 .skip
 (.exit 2)))
 (.seq
 (.block 3
 (.seq
 (.ops true [0, 1, 0, 0, 12, 28, 63, 127, 0, 511] [o0 38 (.fad 0 (.t 5)), o0 39 (.ld none (.t 38)), om 40 3, om 41 14, o0 42 (.iad 1 (.t 40) (.t 41)), o0 43 (.ld none (.t 42)), o0 44 (.iad 35 (.t 39) (.t 43)), o0 45 (.ld (some 35) (.t 44)), o0 15 (.box (.c (.agg [(.d (.sc (.int .u8 0))), (.d (.sc (.int .u8 0))), (.d (.sc (.int .u8 0))), (.d (.sc (.int .u8 0))), (.d (.sc (.int .u8 0))), (.d (.sc (.int .u8 0))), (.d (.sc (.int .u8 0))), (.d (.sc (.int .u8 0))), (.d (.sc (.int .u8 0))), (.d (.sc (.int .u8 0))), (.d (.sc (.int .u8 0))), (.d (.sc (.int .u8 0))), (.d (.sc (.int .u8 0))), (.d (.sc (.int .u8 0))), (.d (.sc (.int .u8 0))), (.d (.sc (.int .u8 0))), (.d (.sc (.int .u8 0))), (.d (.sc (.int .u8 0))), (.d (.sc (.int .u8 0))), (.d (.sc (.int .u8 0))), (.d (.sc (.int .u8 0))), (.d (.sc (.int .u8 0))), (.d (.sc (.int .u8 0))), (.d (.sc (.int .u8 0))), (.d (.sc (.int .u8 0))), (.d (.sc (.int .u8 0))), (.d (.sc (.int .u8 0))), (.d (.sc (.int .u8 0))), (.d (.sc (.int .u8 0))), (.d (.sc (.int .u8 0))), (.d (.sc (.int .u8 0))), (.d (.sc (.int .u8 0))), (.d (.sc (.int .i64 0))), (.d (.sc (.string ⟨#[]⟩))), (.d (.sc (.bool false)))]))), oN (.st 35 (.t 15) (.t 45))])
 (.seq
 (.seq
 (fo [o0 46 (.fad 0 (.t 13)), o0 47 (.ld (some 33) (.t 46)), o0 48 (.fad 0 (.t 15)), o0 49 (.ld (some 33) (.t 48)), o0 50 (.eqa true [.i, .i, .i, .i, .i, .i, .i, .i, .i, .i, .i, .i, .i, .i, .i, .i, .i, .i, .i, .i, .i, .i, .i, .i, .i, .i, .i, .i, .i, .i, .i, .i, .i] true (.t 47) (.t 49)), om 51 50, og 52 51 false (.fad 33 (.t 13)), og 53 51 false (.ld none (.t 52)), og 54 51 false (.fad 33 (.t 15)), og 55 51 false (.ld none (.t 54)), og 56 51 false (.bin .neq (.t 53) (.t 55)), o0 57 (.pick (.t 51) (.c (.d (.sc (.bool true)))) (.t 56))])
 (.cond (.t 57)
 (.exit 3)
 .skip))
 (.seq
 (.seq
 (fo [om 58 14, om 59 11, o0 60 (.bin .lss (.t 58) (.t 59))])
 (.cond (.t 60)
 (.seq
 (fo [om 61 10, om 8 61, o0 9 (.mov (.c (.d (.sc (.bool false)))))])
 .ret)
 .skip))
 (.seq
 (fo [om 62 14, om 11 62])
 (.seq
 (fo [om 63 10, o0 64 (.len 0 (.t 63)), o0 65 (.bin .sub (.t 64) (xi 1)), om 16 65])
 (.seq
 (.ops true [0, 1, 3, 7, 7, 31, 63, 127, 7, 7, 775, 1799, 3847, 8191, 7, 32767, 65535, 131071, 262143, 262143, 1048575, 2097151, 4194303, 262143, 262143, 25427967, 58982399, 126091263, 268435455, 262143, 1073741823, 2147483647] [om 66 16, o0 67 (.bin .geq (.t 66) (xi 0)), om 68 67, oh 69 68 true 10, oh 70 68 true 16, og 71 68 true (.iad 3 (.t 69) (.t 70)), og 72 68 true (.fad 0 (.t 71)), og 73 68 true (.ld none (.t 72)), oh 74 68 true 10, oh 75 68 true 16, og 76 68 true (.iad 3 (.t 74) (.t 75)), og 77 68 true (.fad 2 (.t 76)), og 78 68 true (.ld none (.t 77)), og 79 68 true (.bin .add (.t 73) (.t 78)), oh 80 68 true 12, og 81 68 true (.bin .eql (.t 79) (.t 80)), o0 82 (.pick (.t 68) (.t 81) (.c (.d (.sc (.bool false))))), om 83 82, oh 84 83 true 10, oh 85 83 true 16, og 86 83 true (.iad 3 (.t 84) (.t 85)), og 87 83 true (.fad 1 (.t 86)), og 88 83 true (.ld none (.t 87)), oh 89 83 true 10, oh 90 83 true 16, og 91 83 true (.iad 3 (.t 89) (.t 90)), og 92 83 true (.fad 2 (.t 91)), og 93 83 true (.ld none (.t 92)), og 94 83 true (.bin .add (.t 88) (.t 93)), oh 95 83 true 14, og 96 83 true (.bin .eql (.t 94) (.t 95)), o0 97 (.pick (.t 83) (.t 96) (.c (.d (.sc (.bool false)))))])
 (.cond (.t 97)
 (fo [om 98 10, om 99 16, o0 100 (.iad 3 (.t 98) (.t 99)), o0 101 (.fad 2 (.t 100)), o0 102 (.ld none (.t 101)), o0 103 (.bin .add (.t 102) (xi 1)), o0 104 (.iad 3 (.t 98) (.t 99)), o0 105 (.fad 2 (.t 104)), oN (.st 1 (.t 105) (.t 103))])
 (fo [om 106 10, om 107 12, om 108 14, o0 109 (.bld [(.d (.sc (.int .i64 0))), (.d (.sc (.int .i64 0))), (.d (.sc (.int .i64 0)))] [(0, 1, (.t 107)), (1, 1, (.t 108)), (2, 1, (xi 1))]), o0 110 (.bsl false 65 3 1 [(.d (.sc (.int .i64 0))), (.d (.sc (.int .i64 0))), (.d (.sc (.int .i64 0)))] [(0, 3, (.t 109))]), o0 111 (.app false 65 3 24 (.t 106) (.t 110)), om 10 111])))))))))
 (fo [om 36 14, o0 37 (.bin .add (.t 36) (xi 1)), om 14 37]))))))))
 (fo [om 22 12, o0 23 (.bin .add (.t 22) (xi 1)), om 12 23]))))))
 (.seq
 (fo [om 112 10, om 8 112, o0 9 (.mov (.c (.d (.sc (.bool true)))))])
 .ret))))), [.tmp 8, .tmp 9]⟩
theorem okb_refMatching : compFn Tryz.prog [17] 60 = some k_refMatching := by kernel_rfl
def k_refHunks : CF := ⟨58,
 (.seq
 (fo [o0 2 (.box (.t 0)), o0 3 (.box (.t 1)), o0 4 (.mov (.c (.nil 3))), o0 5 (.mov (xi 0))])
 (.seq
 (.seq
 (fo [o0 12 (.ld (some 2) (.t 2)), o0 13 (.call (.fn 38) [(.t 12)]), om 6 13])
 (.seq
 (fo [om 14 6, o0 15 (.bin .neq (.t 14) (xi 0))])
 (.cond (.t 15)
 (.seq
 (fo [o0 16 (.bsl false 109 3 0 [] []), om 17 6, om 4 16, om 5 17])
 .ret)
 .skip)))
 (.seq
 (.seq
 (fo [o0 18 (.ld (some 2) (.t 3)), o0 19 (.call (.fn 38) [(.t 18)]), om 7 19])
 (.seq
 (fo [om 20 7, o0 21 (.bin .neq (.t 20) (xi 0))])
 (.cond (.t 21)
 (.seq
 (fo [o0 22 (.bsl false 109 3 0 [] []), om 23 7, om 4 22, om 5 23])
 .ret)
 .skip)))
 (.seq
 (.seq
 (fo [o0 24 (.ld (some 2) (.t 2)), o0 25 (.call (.fn 59) [(.t 24)]), o0 26 (.not (.t 25)), om 27 26, og 28 27 false (.ld (some 2) (.t 3)), og 29 27 false (.call (.fn 59) [(.t 28)]), og 30 27 false (.not (.t 29)), o0 31 (.pick (.t 27) (.c (.d (.sc (.bool true)))) (.t 30))])
 (.cond (.t 31)
 (.seq
 (fo [o0 32 (.bsl false 109 3 0 [] []), om 4 32, o0 5 (.mov (xi 15))])
 .ret)
 .skip))
 (.seq
 (.ops true [0, 1, 0, 7, 15, 31] [o0 33 (.ld (some 2) (.t 2)), o0 34 (.call (.fn 16) [(.t 33)]), o0 35 (.ld (some 2) (.t 3)), o0 36 (.call (.fn 16) [(.t 35)]), om 8 34, om 9 36])
 (.seq
 (fo [o0 38 (.ld (some 2) (.t 2)), o0 39 (.ld (some 2) (.t 3)), om 40 8, om 41 9, o0 42 (.call (.fn 60) [(.t 38), (.t 39), (.t 40), (.t 41)]), om 37 42, o0 43 (.ext (.t 37) 0), o0 44 (.ext (.t 37) 1), om 10 43, om 11 44])
 (.seq
 (.seq
 (fo [om 45 11, o0 46 (.not (.t 45))])
 (.cond (.t 46)
 (.seq
 (fo [o0 47 (.bsl false 109 3 0 [] []), om 4 47, o0 5 (.mov (xi 9))])
 .ret)
 .skip))
 (.seq
 (.ops true [0, 0, 3, 0, 0, 31, 0, 127, 255, 255, 1023, 2047] [o0 48 (.ld (some 2) (.t 2)), om 49 8, o0 50 (.call (.fn 62) [(.t 48), (.t 49)]), o0 51 (.ld (some 2) (.t 3)), om 52 9, o0 53 (.call (.fn 62) [(.t 51), (.t 52)]), om 54 10, o0 55 (.call (.fn 61) [(.t 50), (.t 53), (.t 54)]), o0 56 (.ext (.t 55) 0), o0 57 (.ext (.t 55) 1), om 4 56, om 5 57])
 .ret)))))))), [.tmp 4, .tmp 5]⟩
theorem okb_refHunks : compFn Tryz.prog [] 21 = some k_refHunks := by kernel_rfl
def k_LinearizeText : CF := ⟨44,
 (.seq
 (fo [o0 2 (.box (.t 0)), o0 3 (.box (.t 1)), o0 4 (.mov (.c (.d (.sc (.bool false)))))])
 (.seq
 (.seq
 (fo [o0 9 (.ld (some 2) (.t 2)), o0 10 (.ld (some 2) (.t 3)), o0 11 (.bsl false 25 2 2 [(.nil 35), (.nil 2), (.nil 35), (.nil 2)] [(0, 2, (.t 9)), (2, 2, (.t 10))]), o0 12 (.call (.fn 7) [(.t 11)])])
 (.cond (.t 12)
 (.seq
 (fo [o0 13 (.call (.fn 8) []), om 4 13])
 .ret)
 .skip))
 (.seq
 (fo [o0 15 (.ld (some 2) (.t 2)), o0 16 (.ld (some 2) (.t 3)), o0 17 (.call (.fn 20) [(.t 15), (.t 16)]), om 14 17, o0 18 (.ext (.t 14) 0), o0 19 (.ext (.t 14) 1), om 5 18, om 6 19])
 (.seq
 (fo [o0 21 (.ld (some 2) (.t 2)), o0 22 (.ld (some 2) (.t 3)), o0 23 (.call (.fn 21) [(.t 21), (.t 22)]), om 20 23, o0 24 (.ext (.t 20) 0), o0 25 (.ext (.t 20) 1), om 7 24, om 8 25])
 (.seq
 (.ops true [0, 1, 0, 7, 15, 31, 63, 63, 255, 511, 1023, 2047, 2047, 8191, 16383, 32767, 65535, 131071, 262143] [o0 26 (.ld (some 2) (.t 2)), o0 27 (.call (.fn 23) [(.t 26)]), o0 28 (.ld (some 2) (.t 2)), o0 29 (.call (.fn 24) [(.t 28)]), o0 30 (.call (.fn 22) [(.t 27), (.t 29)]), om 31 30, oh 32 31 true 5, oh 33 31 true 7, og 34 31 true (.call (.fn 25) [(.t 32), (.t 33)]), o0 35 (.pick (.t 31) (.t 34) (.c (.d (.sc (.bool false))))), om 36 35, oh 37 36 true 6, oh 38 36 true 8, og 39 36 true (.bin .eql (.t 37) (.t 38)), o0 40 (.pick (.t 36) (.t 39) (.c (.d (.sc (.bool false))))), om 41 40, og 42 41 true (.call (.fn 8) []), o0 43 (.pick (.t 41) (.t 42) (.c (.d (.sc (.bool false))))), om 4 43])
 .ret))))), [.tmp 4]⟩
theorem okb_LinearizeText : compFn Tryz.prog [] 5 = some k_LinearizeText := by kernel_rfl
end Go.Proofs.Lh

namespace Go.Proofs.Lh
open Go Go.Bb Go.RowKit Go.Proofs.Lg
def inSt (fi : Option Nat) (out : List Mt) (last : Int) (i k : Nat) : List Mt × Int := match fi with
 | some k' => if k' < k then (mPut out i k', k') else (out, last)
 | none => (out, last)
theorem inSt_zero (fi : Option Nat) (out : List Mt) (last : Int) (i : Nat) : inSt fi out last i 0 = (out, last) := by cases fi <;> rfl
theorem inSt_skip {fi : Option Nat} {k : Nat} (h : fi ≠ some k) (out : List Mt) (last : Int) (i : Nat) : inSt fi out last i (k + 1) = inSt fi out last i k := by
 cases fi with
 | none => rfl
 | some k' =>
   have : k' ≠ k := fun e => h (by rw [e])
   by_cases h1 : k' < k
   · simp only [inSt, h1, Nat.lt_succ_of_lt h1, if_true]
   · have h2 : ¬ k' < k + 1 := by omega
     simp only [inSt, h1, h2, if_false]
theorem inSt_hit (k : Nat) (out : List Mt) (last : Int) (i : Nat) : inSt (some k) out last i k = (out, last) ∧ inSt (some k) out last i (k + 1) = (mPut out i k, (k : Int)) := by
 unfold inSt
 exact ⟨if_neg (Nat.lt_irrefl _), if_pos (Nat.lt_succ_self _)⟩
theorem vrow_t33 {v : Vtx} (h : v.ok) : (vrow v)[33]? = some (.sc (.string v.text)) := by
 have h2 := vrow_33 h
 have : ((vrow v).drop 33)[0]? = some (.sc (.string v.text)) := by rw [h2]; rfl
 rwa [List.getElem?_drop] at this
theorem key_box {v : Vtx} (h : v.ok) : AV.key true (.agg ((vrow v).map AV.d |>.take 33)) = some (idVs v) := by
 rw [← List.map_take, vrow_id h]
 simp only [AV.key, AV.row, Option.bind_some, List.map_map, if_true]
 have h2 : List.map (AV.d ∘ Go.Ab.D.sc) (idVs v) = (idVs v).map fun u => AV.d (.sc u) := rfl
 rw [h2, scsA_sc]
theorem vrow_t35 {v : Vtx} (h : v.ok) : (vrow v).take 35 = vrow v := List.take_of_length_le (by rw [vrow_35 h]; exact Nat.le_refl _)
set_option maxRecDepth 10000 in
set_option maxHeartbeats 4000000 in
theorem refMatching_fn {old new : Gr} (ho : GrOk old) (hn : GrOk new) {a b : List Nat} (ha : ∀ j ∈ a, j < old.lines.length) (hb : ∀ j ∈ b, j < new.lines.length) (hal : a.length ≤ 1000000) (hbl : b.length ≤ 1000000) {f : Nat → Option Nat} (hfb : ∀ i k, f i = some k → k < b.length)
   (hf : ∀ i k p q x y, a[i]? = some p → b[k]? = some q → old.lines[p]? = some x → new.lines[q]? = some y → (f i = some k ↔ SameV x y)) :
   AFn Tryz.prog 60 [dGraph old, dGraph new, dNats a, dNats b] (.tup [dMts (mRun f (List.range' 0 a.length) (-1) []).1, .sc (.bool (mRun f (List.range' 0 a.length) (-1) []).2)]) := by
 generalize hR : mRun f (List.range' 0 a.length) (-1) [] = R
 refine AFn_of (F := k_refMatching) (okb_refMatching.trans (by kernel_rfl)) (by simp [k_refMatching]) ?_
 simp only [k_refMatching, dGraph, dNats, dMts, dLines, ↓Both_true, ↓Both_false, wx, reduceCtorEq, reduceIte, Nat.reduceAdd, Nat.reduceEqDiff, Nat.reduceLT, Nat.reduceLeDiff, wj, ← List.map_take, ← List.map_drop]
 refine LoopK.at (fun s : Nat × List Mt × Int × List AObj => [(12, .d (.sc (.int .i64 s.1))), (11, .d (.sc (.int .i64 s.2.2.1))), (10, .vec 2 s.2.1.length 3), (4, .ptr 0 0), (5, .ptr 1 0), (2, .d (.sl 1 (a.map nrow))), (3, .d (.sl 1 (b.map nrow)))])
   (fun s => .cells [.d (.sl 35 (old.lines.map vrow)), .d (dEdges old.edges)] :: .cells [.d (.sl 35 (new.lines.map vrow)), .d (dEdges new.edges)] :: .vec 65 3 (mtA s.2.1) :: s.2.2.2)
   (fun mm s => mm + s.1 = a.length ∧ s.2.1.length ≤ s.1 ∧ MtB s.1 s.2.1 ∧ mRun f (List.range' s.1 mm) s.2.2.1 s.2.1 = R)
   a.length (0, [], -1, []) (by simp [SubB, Go.Bb.look]) rfl ⟨rfl, Nat.le_refl _, (fun m hm => by cases hm), hR⟩ ?_
 rintro mm ⟨i, out, last, J⟩ ⟨hm, hol, hmb, hrun⟩
 dsimp only at hm hol hmb hrun ⊢
 by_cases hlt : i < a.length
 · have f1 : decide ((i : Int) < (a.length : Int)) = true := by simpa using hlt
   have f2 : a[i]? = some a[i] := List.getElem?_eq_getElem hlt
   have f3 : IntKind.i64.wrap ((i : Int) + 1) = ((i + 1 : Nat) : Int) := wrapN (by omega) (by omega)
   have hp := ha a[i] (List.getElem_mem _)
   generalize a[i] = p at f2 hp
   have f4 : old.lines[p]? = some old.lines[p] := List.getElem?_eq_getElem hp
   have hxo := ho.okl old.lines[p] (List.getElem_mem _)
   generalize old.lines[p] = x at f4 hxo
   have hff := fun k q y => hf i k p q x y f2
   obtain ⟨mm, rfl⟩ : ∃ m', mm = m' + 1 := ⟨mm - 1, by omega⟩
   rw [List.range'_succ, mRun] at hrun
   have b0 := vrow_35 hxo
   have b00 : 35 ≤ 35 := Nat.le_refl _
   have b33 : 33 ≤ 35 := by decide
   have b1 := vrow_t35 hxo
   simp only [f1, f2, f4, b0, b00, b1, nrow, List.append_nil, ↓Both_true, ↓Both_false, wx, reduceCtorEq, reduceIte, Nat.reduceAdd, Nat.reduceEqDiff, Nat.reduceLT, Nat.reduceLeDiff, wj, ← List.map_take, ← List.map_drop]
   refine ⟨(ordF_coarse (by simp only [List.map_cons, List.map_nil, coarse_rd, coarse_wr]; rfl)), ?_⟩
   refine LoopK.at (fun s : Nat × List Mt × Int × List AObj => [(14, .d (.sc (.int .i64 s.1))), (13, .ptr (J.length + 1 + 1 + 1) 0), (12, .d (.sc (.int .i64 i))), (11, .d (.sc (.int .i64 s.2.2.1))), (10, .vec 2 s.2.1.length 3), (4, .ptr 0 0), (5, .ptr 1 0), (2, .d (.sl 1 (a.map nrow))), (3, .d (.sl 1 (b.map nrow)))])
     (fun s => .cells [.d (.sl 35 (old.lines.map vrow)), .d (dEdges old.edges)] :: .cells [.d (.sl 35 (new.lines.map vrow)), .d (dEdges new.edges)] :: .vec 65 3 (mtA s.2.1) :: s.2.2.2)
     (fun m2 s => m2 + s.1 = b.length ∧ (s.2.1, s.2.2.1) = inSt (f i) out last i s.1 ∧ (∀ k', f i = some k' → k' < s.1 → ¬ (k' : Int) < last) ∧ s.2.2.2[J.length]? = some (.cells ((vrow x).map AV.d)))
     b.length (0, out, last, J ++ [.cells ((vrow x).map AV.d)]) (by simp [SubB, Go.Bb.look]) rfl ⟨rfl, (inSt_zero _ _ _ _).symm, (fun k' _ h => absurd h (by dsimp only; omega)), by simp⟩ ?_
   rintro m2 ⟨k, out', last', L⟩ ⟨hm2, hst, hret, hX⟩
   dsimp only at hm2 hst hret hX ⊢
   have hXL : ∀ K, (L ++ K)[J.length]? = some (.cells ((vrow x).map AV.d)) := fun K => by rw [List.getElem?_append_left (List.getElem?_eq_some_iff.1 hX).1]; exact hX
   by_cases hlk : k < b.length
   · have e1 : decide ((k : Int) < (b.length : Int)) = true := by simpa using hlk
     have e2 : b[k]? = some b[k] := List.getElem?_eq_getElem hlk
     have e3 : IntKind.i64.wrap ((k : Int) + 1) = ((k + 1 : Nat) : Int) := wrapN (by omega) (by omega)
     have hq := hb b[k] (List.getElem_mem _)
     generalize b[k] = q at e2 hq
     have e4 : new.lines[q]? = some new.lines[q] := List.getElem?_eq_getElem hq
     have hyo := hn.okl new.lines[q] (List.getElem_mem _)
     generalize new.lines[q] = y at e4 hyo
     have hfk := hff k q y e2 f4 e4
     have d0 := vrow_35 hyo
     have d1 := vrow_t35 hyo
     have d3 := key_box hxo
     have d4 := key_box hyo
     rw [← List.map_take] at d3 d4
     have d5 := vrow_t33 hxo
     have d6 := vrow_t33 hyo
     have d7 := eqKs_id hxo hyo
     unfold ks33 at d7
     have hsk : f i ≠ some k → ∃ (m' : Nat) (b' : Nat × List Mt × Int × List AObj), m' < m2 ∧ (((k + 1 : Nat) : Int) = (b'.1 : Int) ∧ last' = b'.2.2.1 ∧ AV.vec 2 out'.length 3 = AV.vec 2 b'.2.1.length 3) ∧ AObj.cells [.d (.sl 35 (old.lines.map vrow)), .d (dEdges old.edges)] :: AObj.cells [.d (.sl 35 (new.lines.map vrow)), .d (dEdges new.edges)] :: AObj.vec 65 3 (mtA out') :: (L ++ [.cells ((vrow y).map AV.d)]) = AObj.cells [.d (.sl 35 (old.lines.map vrow)), .d (dEdges old.edges)] :: AObj.cells [.d (.sl 35 (new.lines.map vrow)), .d (dEdges new.edges)] :: AObj.vec 65 3 (mtA b'.2.1) :: b'.2.2.2 ∧ m' + b'.1 = b.length ∧ (b'.2.1, b'.2.2.1) = inSt (f i) out last i b'.1 ∧ (∀ k', f i = some k' → k' < b'.1 → ¬ (k' : Int) < last) ∧ b'.2.2.2[J.length]? = some (.cells ((vrow x).map AV.d)) := fun h =>
       ⟨m2 - 1, (k + 1, out', last', L ++ [.cells ((vrow y).map AV.d)]), by omega, ⟨rfl, rfl, rfl⟩, rfl, by dsimp only; omega, by dsimp only; rw [inSt_skip h]; exact hst, (fun k' h1 h2 => hret k' h1 (by
         have : k' ≠ k := fun e => h (by rw [h1, e])
         dsimp only at h2; omega)), hXL _⟩
     by_cases hid : x.id = y.id ∧ x.n = y.n
     · have d8 : (decide (x.id = y.id) && decide (x.n = y.n)) = true := by simp [hid]
       by_cases htx : x.text = y.text
       · have g2 : (!(x.text.toList == y.text.toList)) = false := by rw [htx]; simp
         have hfi : f i = some k := hfk.2 ⟨hid.1, hid.2, htx⟩
         rw [hfi] at hst hret
         rw [(inSt_hit k out last i).1] at hst
         obtain ⟨rfl, rfl⟩ : out' = out ∧ last' = last := Prod.mk.inj hst
         rw [hfi] at hrun
         dsimp only at hrun
         by_cases hkl : (k : Int) < last'
         · rw [if_pos hkl] at hrun
           subst hrun
           have g3 : decide ((k : Int) < last') = true := by simpa using hkl
           have h1 := mtA_len out'
           simp only [f1, f2, f4, e1, e2, e4, d0, b0, b00, b1, b33, d1, d3, d4, d5, d6, hXL, hX, nrow, List.append_nil, List.length_map, d7, d8, g2, g3, h1, deepD, mapO_mt, mtA_deep, dMts, ↓Both_true, ↓Both_false, wx, reduceCtorEq, reduceIte, Nat.reduceAdd, Nat.reduceEqDiff, Nat.reduceLT, Nat.reduceLeDiff, wj, ← List.map_take, ← List.map_drop]
           exact (ordF_coarse (by simp only [List.map_cons, List.map_nil, coarse_rd, coarse_wr]; rfl))
         · rw [if_neg hkl] at hrun
           have g3 : decide ((k : Int) < last') = false := by simpa using hkl
           have hk1 : k < 1000000 := by omega
           have hdone : ∀ {v : AV} {o2 : List Mt} {l2 : Int} {K : List AObj}, v = AV.vec 2 o2.length 3 → o2 = mPut out' i k → l2 = (k : Int) → ∃ (m' : Nat) (b' : Nat × List Mt × Int × List AObj), m' < m2 ∧ (((k + 1 : Nat) : Int) = (b'.1 : Int) ∧ l2 = b'.2.2.1 ∧ v = AV.vec 2 b'.2.1.length 3) ∧ AObj.cells [.d (.sl 35 (old.lines.map vrow)), .d (dEdges old.edges)] :: AObj.cells [.d (.sl 35 (new.lines.map vrow)), .d (dEdges new.edges)] :: AObj.vec 65 3 (mtA o2) :: (L ++ K) = AObj.cells [.d (.sl 35 (old.lines.map vrow)), .d (dEdges old.edges)] :: AObj.cells [.d (.sl 35 (new.lines.map vrow)), .d (dEdges new.edges)] :: AObj.vec 65 3 (mtA b'.2.1) :: b'.2.2.2 ∧ m' + b'.1 = b.length ∧ (b'.2.1, b'.2.2.1) = inSt (f i) out' last' i b'.1 ∧ (∀ k', f i = some k' → k' < b'.1 → ¬ (k' : Int) < last') ∧ b'.2.2.2[J.length]? = some (.cells ((vrow x).map AV.d)) := by
             rintro v o2 l2 K rfl rfl rfl
             refine ⟨m2 - 1, (k + 1, mPut out' i k, k, L ++ K), by omega, ⟨rfl, rfl, rfl⟩, rfl, by dsimp only; omega, by dsimp only; rw [hfi, (inSt_hit k out' last' i).2], (fun k' h1 h2 => ?_), hXL _⟩
             rw [hfi] at h1
             obtain rfl : k = k' := Option.some.inj h1
             exact hkl
           rcases List.eq_nil_or_concat out' with ho2 | ⟨l, m, ho2⟩
           · subst ho2
             have w1 : IntKind.i64.wrap ((((0 : Nat)) : Int) - 1) = -1 := by decide
             have w2 : decide ((-1 : Int) ≥ 0) = false := by decide
             have w3 : roomOk 1 24 = true := by decide
             simp only [f1, f2, f4, e1, e2, e4, d0, b0, b00, b1, b33, d1, d3, d4, d5, d6, hXL, hX, nrow, List.append_nil, List.length_map, d7, d8, g2, g3, w1, w2, w3, e3, mtA, List.flatMap_nil, List.length_nil, List.flatten_cons, List.flatten_nil, Nat.one_mul, Nat.zero_mul, ↓Both_true, ↓Both_false, wx, reduceCtorEq, reduceIte, Nat.reduceAdd, Nat.reduceEqDiff, Nat.reduceLT, Nat.reduceLeDiff, wj, ← List.map_take, ← List.map_drop]
             exact ⟨(ordF_coarse (by simp only [List.map_cons, List.map_nil, coarse_rd, coarse_wr]; rfl)), (ordF_coarse (by simp only [List.map_cons, List.map_nil, coarse_rd, coarse_wr]; rfl)), hdone (v := .vec 2 1 3) (o2 := [⟨i, k, 1⟩]) (l2 := k) (K := [.cells ((vrow y).map AV.d), .row 65 3 1]) rfl rfl rfl⟩
           · rw [List.concat_eq_append] at ho2
             subst ho2
             have hmm := hmb m (by simp)
             obtain ⟨r1, r2, r3⟩ := mtA_get l m
             have r4 := mtA_len (l ++ [m])
             have r5 : (l ++ [m]).length = l.length + 1 := by simp
             rw [r5] at r4 hol
             have w1 : IntKind.i64.wrap (((l.length + 1 : Nat) : Int) - 1) = ((l.length : Nat) : Int) := wrapN (by omega) (by omega)
             have w2 : decide ((l.length : Int) ≥ 0) = true := by simp
             have w3 : IntKind.i64.wrap ((m.a : Int) + (m.len : Int)) = ((m.a + m.len : Nat) : Int) := wrapN (by omega) (by omega)
             have w4 : IntKind.i64.wrap ((m.b : Int) + (m.len : Int)) = ((m.b + m.len : Nat) : Int) := wrapN (by omega) (by omega)
             have w5 : IntKind.i64.wrap ((m.len : Int) + 1) = ((m.len + 1 : Nat) : Int) := wrapN (by omega) (by omega)
             have w6 : l.length < l.length + 1 := Nat.lt_succ_self _
             have w7 : roomOk (l.length + 1 + 1) 24 = true := by simp [roomOk]; omega
             have w8 : l.length * 3 + 2 + 1 ≤ (l.length + 1) * 3 := by omega
             by_cases c1 : m.a + m.len = i
             · have v1 : (((m.a + m.len : Nat) : Int) == (i : Int)) = true := by simp only [beq_iff_eq]; omega
               by_cases c2 : m.b + m.len = k
               · have v2 : (((m.b + m.len : Nat) : Int) == (k : Int)) = true := by simp only [beq_iff_eq]; omega
                 simp only [f1, f2, f4, e1, e2, e4, d0, b0, b00, b1, b33, d1, d3, d4, d5, d6, hXL, hX, nrow, List.append_nil, List.length_map, d7, d8, g2, g3, r1, r2, r3, r4, w1, w2, w3, w4, w5, w6, w8, v1, v2, e3, Nat.add_zero, List.flatten_cons, List.flatten_nil, Nat.one_mul, ↓Both_true, ↓Both_false, wx, reduceCtorEq, reduceIte, Nat.reduceAdd, Nat.reduceEqDiff, Nat.reduceLT, Nat.reduceLeDiff, wj, ← List.map_take, ← List.map_drop]
                 refine ⟨(ordF_coarse (by simp only [List.map_cons, List.map_nil, coarse_rd, coarse_wr]; rfl)), (ordF_coarse (by simp only [List.map_cons, List.map_nil, coarse_rd, coarse_wr]; rfl)), ?_⟩
                 have hd := hdone (v := .vec 2 (l.length + 1) 3) (o2 := l ++ [⟨m.a, m.b, m.len + 1⟩]) (l2 := k) (K := [.cells ((vrow y).map AV.d)]) (by rw [List.length_append]; rfl) (mPut_yes c1 c2).symm rfl
                 rw [mtA_snoc] at hd
                 rw [mtA_put]
                 exact hd
               · have v2 : (((m.b + m.len : Nat) : Int) == (k : Int)) = false := by simp only [beq_eq_false_iff_ne, ne_eq]; omega
                 simp only [f1, f2, f4, e1, e2, e4, d0, b0, b00, b1, b33, d1, d3, d4, d5, d6, hXL, hX, nrow, List.append_nil, List.length_map, d7, d8, g2, g3, r1, r2, r3, r4, w1, w2, w3, w4, w6, w7, v1, v2, e3, Nat.add_zero, List.flatten_cons, List.flatten_nil, Nat.one_mul, ↓Both_true, ↓Both_false, wx, reduceCtorEq, reduceIte, Nat.reduceAdd, Nat.reduceEqDiff, Nat.reduceLT, Nat.reduceLeDiff, wj, ← List.map_take, ← List.map_drop]
                 refine ⟨(ordF_coarse (by simp only [List.map_cons, List.map_nil, coarse_rd, coarse_wr]; rfl)), (ordF_coarse (by simp only [List.map_cons, List.map_nil, coarse_rd, coarse_wr]; rfl)), ?_⟩
                 have hd := hdone (v := .vec 2 (l.length + 1 + 1) 3) (o2 := l ++ [m] ++ [⟨i, k, 1⟩]) (l2 := k) (K := [.cells ((vrow y).map AV.d), .row 65 3 1]) (by rw [List.length_append, r5]; rfl) (mPut_no fun h => c2 h.2).symm rfl
                 rw [mtA_snoc (l ++ [m])] at hd
                 exact hd
             · have v1 : (((m.a + m.len : Nat) : Int) == (i : Int)) = false := by simp only [beq_eq_false_iff_ne, ne_eq]; omega
               simp only [f1, f2, f4, e1, e2, e4, d0, b0, b00, b1, b33, d1, d3, d4, d5, d6, hXL, hX, nrow, List.append_nil, List.length_map, d7, d8, g2, g3, r1, r2, r3, r4, w1, w2, w3, w4, w6, w7, v1, e3, Nat.add_zero, List.flatten_cons, List.flatten_nil, Nat.one_mul, ↓Both_true, ↓Both_false, wx, reduceCtorEq, reduceIte, Nat.reduceAdd, Nat.reduceEqDiff, Nat.reduceLT, Nat.reduceLeDiff, wj, ← List.map_take, ← List.map_drop]
               refine ⟨(ordF_coarse (by simp only [List.map_cons, List.map_nil, coarse_rd, coarse_wr]; rfl)), (ordF_coarse (by simp only [List.map_cons, List.map_nil, coarse_rd, coarse_wr]; rfl)), ?_⟩
               have hd := hdone (v := .vec 2 (l.length + 1 + 1) 3) (o2 := l ++ [m] ++ [⟨i, k, 1⟩]) (l2 := k) (K := [.cells ((vrow y).map AV.d), .row 65 3 1]) (by rw [List.length_append, r5]; rfl) (mPut_no fun h => c1 h.1).symm rfl
               rw [mtA_snoc (l ++ [m])] at hd
               exact hd
       · have g2 : (!(x.text.toList == y.text.toList)) = true := by rw [Go.Proofs.Lg.str_ne htx]; rfl
         simp only [f1, f2, f4, e1, e2, e4, d0, b0, b00, b1, b33, d1, d3, d4, d5, d6, hXL, hX, nrow, List.append_nil, List.length_map, d7, d8, g2, e3, ↓Both_true, ↓Both_false, wx, reduceCtorEq, reduceIte, Nat.reduceAdd, Nat.reduceEqDiff, Nat.reduceLT, Nat.reduceLeDiff, wj, ← List.map_take, ← List.map_drop]
         exact ⟨(ordF_coarse (by simp only [List.map_cons, List.map_nil, coarse_rd, coarse_wr]; rfl)), hsk fun e => htx (hfk.1 e).2.2⟩
     · have d8 : (decide (x.id = y.id) && decide (x.n = y.n)) = false := by
         rw [Bool.eq_false_iff]; intro h; rw [Bool.and_eq_true, decide_eq_true_eq, decide_eq_true_eq] at h; exact hid h
       simp only [f1, f2, f4, e1, e2, e4, d0, b0, b00, b1, b33, d1, d3, d4, d5, d6, hXL, hX, nrow, List.append_nil, List.length_map, d7, d8, e3, ↓Both_true, ↓Both_false, wx, reduceCtorEq, reduceIte, Nat.reduceAdd, Nat.reduceEqDiff, Nat.reduceLT, Nat.reduceLeDiff, wj, ← List.map_take, ← List.map_drop]
       exact ⟨(ordF_coarse (by simp only [List.map_cons, List.map_nil, coarse_rd, coarse_wr]; rfl)), hsk fun e => hid ⟨(hfk.1 e).1, (hfk.1 e).2.1⟩⟩
   · have e1 : decide ((k : Int) < (b.length : Int)) = false := by simpa using hlk
     simp only [f1, e1, f3, ↓Both_true, ↓Both_false, wx, reduceCtorEq, reduceIte, Nat.reduceAdd, Nat.reduceEqDiff, Nat.reduceLT, Nat.reduceLeDiff, wj, ← List.map_take, ← List.map_drop]
     have hkb : k = b.length := by omega
     cases hfi : f i with
     | none =>
       rw [hfi] at hst hrun
       obtain ⟨rfl, rfl⟩ : out' = out ∧ last' = last := Prod.mk.inj hst
       exact ⟨mm, (i + 1, out', last', L), Nat.lt_succ_self _, ⟨rfl, rfl, rfl⟩, rfl, by dsimp only; omega, by dsimp only; omega, hmb.mono (Nat.le_succ _), hrun⟩
     | some k' =>
       have hk' := hfb i k' hfi
       have hret' := hret k' hfi (by omega)
       rw [hfi] at hst hrun
       dsimp only at hrun
       rw [if_neg hret'] at hrun
       have hst2 : (out', last') = (mPut out i k', (k' : Int)) := by rw [hst]; exact if_pos (by omega)
       obtain ⟨rfl, rfl⟩ : out' = mPut out i k' ∧ last' = (k' : Int) := Prod.mk.inj hst2
       exact ⟨mm, (i + 1, mPut out i k', k', L), Nat.lt_succ_self _, ⟨rfl, rfl, rfl⟩, rfl, by dsimp only; omega, by dsimp only; have := (mPut_len out i k').1; omega, hmb.put (by omega), hrun⟩
 · have f1 : decide ((i : Int) < (a.length : Int)) = false := by simpa using hlt
   obtain rfl : mm = 0 := by omega
   have h0 : (out, true) = R := hrun
   subst h0
   have h1 := mtA_len out
   simp only [f1, h1, deepD, mapO_mt, mtA_deep, dMts, ↓Both_true, ↓Both_false, wx, reduceCtorEq, reduceIte, Nat.reduceAdd, Nat.reduceEqDiff, Nat.reduceLT, Nat.reduceLeDiff, wj, ← List.map_take, ← List.map_drop]
end Go.Proofs.Lh
