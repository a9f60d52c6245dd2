/-
  Part GBE of this claim's proof. Joined by merge.py from the texts of wip/tpl.
-/
import Derived.Test.YtclholnhkhjjaaaGreatGBD
import Derived.Test.YtclholnhkhjjaaaGreatGAY
set_option linter.unusedVariables false
set_option linter.unusedSimpArgs false
set_option linter.unnecessarySimpa false
namespace Go.Proofs.Lh
open Go Go.Bb Go.RowKit Go.Proofs.Lg
theorem info_string : (Tryz.prog.info? 9).map (fun i => (i.zero, i.size, i.bytes)) = some (some (.string ⟨#[]⟩), 1, 16) := by kernel_rfl
theorem CloneStrings_empty (a : Option Addr) (c : Nat) (hc : c ≤ 9223372036854775807) (w : World) :
   Calls Tryz.prog 99 #[.slice a 0 c] w fun e w' => ∃ v, e = .returned v ∧ SlAt w' v [] ∧ Below w.heap.size w w' := by
 cases a with
 | none =>
   have heq : ∀ w, (binOp .eql 56 (.slice none 0 c) (.slice none 0 0)).run Tryz.prog w = .ok (.bool true) w := fun w => by rw [Lib.run_eql_slice_nil (h := Tryz.underlying56)]; rfl
   go_enter Tryz.func99, Tryz.ntmps99
   go_wp2
   go_ret
   exact ⟨_, rfl, SlAt.nil _, Below.refl _ _⟩
 | some ad =>
   have heq : ∀ w, (binOp .eql 56 (.slice (some ad) 0 c) (.slice none 0 0)).run Tryz.prog w = .ok (.bool false) w := fun w => by rw [Lib.run_eql_slice_nil (h := Tryz.underlying56)]; rfl
   have hsl : SlAt w (.slice (some ad) 0 c) [] := ⟨some ad, c, rfl, Nat.zero_le _, hc, fun h => absurd rfl h⟩
   have HS := Lib.hid hsl
   clear hsl
   have hown := World.ownsRow_made (e := 9) (size := 1) (base := w.heap.size) w #[] 0 (Nat.le_refl _) (by unfold maxLen; omega) rfl
   have HO := Lib.hid hown
   clear hown
   go_enter Tryz.func99, Tryz.ntmps99
   go_wp2_with (at_builtin; refine wpList_app rfl _ _ _ rfl w.heap.size 9 (.string ⟨#[]⟩) 1 16 Tryz.underlying56 info_string rfl (by decide) _ 0 [] rfl HO.out _ 0 [] rfl ((HS.out.below ((Below.refl _ _).alloc (Nat.le_refl _) _)).src) (fun u hu => by cases hu) (by omega) (by omega) (by simp) ?_; intro a' c' w1 hown1 hgrow1 hat1)
   go_ret
   exact ⟨_, rfl, ownsRow_slAt hown1, Below.grown ((Below.refl _ _).alloc (Nat.le_refl _) _) hgrow1 (by simp) (fun k hk => Nat.le_of_eq (Option.some.inj hk))⟩
theorem CloneStrings_fn (l : List ByteArray) (hll : l.length ≤ 1000000) : AFn Tryz.prog 99 [dStrs l] (dStrs l) := by
 cases l with
 | nil =>
   refine ⟨enters_fn Tryz.func99 rfl (by rfl), fun I w vs hl hv => ?_⟩
   match vs, hl with
   | [v], _ =>
     obtain ⟨a, c, us, rfl, h2, h3, h4, h5, h6⟩ := Go.Ab.RD.sl_inv (hv 0 v _ rfl rfl)
     refine (CloneStrings_empty a c h4 w).mono fun e w' ⟨v, he, hs, hb⟩ => ⟨v, he, ?_, hb⟩
     exact RD_of_SlAtP (ok := fun _ => False) (by obtain ⟨a', c', k1, k2, k3, _⟩ := hs; exact ⟨a', c', k1, k2, k3, fun h => absurd rfl h⟩) (fun _ _ _ h _ => h.elim) ⟨rfl, (fun u hu => by cases hu), (fun i u d hu => by simp at hu)⟩ rfl (fun r hr => by cases hr)
 | cons x l =>
   have h0 : roomOk (l.length + 1) 16 = true := by simp [roomOk] at hll ⊢; omega
   refine AFn_of (F := k_CloneStrings) (okb_CloneStrings.trans (by kernel_rfl)) (by simp [k_CloneStrings]) ?_
   simp only [k_CloneStrings, dStrs, h0, deepD, AV.toL, Nat.zero_mul, ↓Both_true, ↓Both_false, wx, reduceCtorEq, reduceIte, Nat.reduceAdd, Nat.reduceEqDiff, Nat.reduceLT, Nat.reduceLeDiff, wj, ← List.map_take, ← List.map_drop]
theorem CloneMatches_nil (s : List AObj) : FnK Tryz.prog 98 [.nil 3] s fun d s' => d = .nil 3 ∧ s' = s := by
 refine FnK.of (F := k_CloneMatches) (okb_CloneMatches.trans (by kernel_rfl)) (by simp [k_CloneMatches]) ?_
 simp only [k_CloneMatches, ↓Both_true, ↓Both_false, wx, reduceCtorEq, reduceIte, Nat.reduceAdd, Nat.reduceEqDiff, Nat.reduceLT, Nat.reduceLeDiff, wj, ← List.map_take, ← List.map_drop]
theorem CloneMatches_cons (m : Mt) (l : List Mt) (hll : l.length ≤ 1000000) (s : List AObj) : FnK Tryz.prog 98 [.d (dMts (m :: l))] s fun d s' => d = .tsl s.length 3 ((m :: l).map dMt) ∧ s' = s ++ [.row 65 3 (l.length + 1)] := by
 have h0 : roomOk (l.length + 1) 24 = true := by simp [roomOk] at hll ⊢; omega
 refine FnK.of (F := k_CloneMatches) (okb_CloneMatches.trans (by kernel_rfl)) (by simp [k_CloneMatches]) ?_
 simp only [k_CloneMatches, dMts, h0, Nat.zero_mul, ↓Both_true, ↓Both_false, wx, reduceCtorEq, reduceIte, Nat.reduceAdd, Nat.reduceEqDiff, Nat.reduceLT, Nat.reduceLeDiff, wj, ← List.map_take, ← List.map_drop]
set_option maxRecDepth 10000 in
set_option maxHeartbeats 2000000 in
theorem myersCheck_fn (a b : List ByteArray) (l : List Mt) (h : MFrom a b 0 0 true l) (ha : a.length ≤ 1000000) (hb : b.length ≤ 1000000) (hl : l.length ≤ 1000000) :
   AFn Tryz.prog 97 [dStrs a, dStrs b, dMts l] (.sc (.int .i64 0)) := by
 refine AFn_of (F := k_myersCheck) (okb_myersCheck.trans (by kernel_rfl)) (by simp [k_myersCheck]) ?_
 simp only [k_myersCheck, dStrs, dMts, ↓Both_true, ↓Both_false, wx, reduceCtorEq, reduceIte, Nat.reduceAdd, Nat.reduceEqDiff, Nat.reduceLT, Nat.reduceLeDiff, wj, ← List.map_take, ← List.map_drop]
 refine LoopK.at (fun s : Nat × Int × Int × List AObj => [(13, .d (.sc (.int .i64 s.1))), (12, .d (.sc (.int .i64 l.length))), (11, .d (.sl 3 (l.map dMt))), (7, .d (.sc (.int .i64 s.2.1))), (8, .d (.sc (.int .i64 s.2.2.1))), (0, .d (.sl 1 (a.map strow))), (1, .d (.sl 1 (b.map strow)))])
   (fun s => s.2.2.2)
   (fun mm s => mm + s.1 = l.length ∧ ((s.2.1 = -1 ∧ s.2.2.1 = -1 ∧ MFrom a b 0 0 true (l.drop s.1)) ∨ ∃ x y : Nat, s.2.1 = x ∧ s.2.2.1 = y ∧ x ≤ a.length ∧ y ≤ b.length ∧ MFrom a b x y false (l.drop s.1)))
   l.length (0, -1, -1, []) (by simp [SubB, Go.Bb.look, intD]) rfl ⟨rfl, .inl ⟨rfl, rfl, h⟩⟩ ?_
 rintro mm ⟨i, xx, yy, J⟩ ⟨hm, hM0⟩
 dsimp only at hm hM0 ⊢
 by_cases hlt : i < l.length
 · have f1 : decide ((i : Int) < (l.length : Int)) = true := by simpa using hlt
   have f2 : l[i]? = some l[i] := List.getElem?_eq_getElem hlt
   have f3 : IntKind.i64.wrap ((i : Int) + 1) = ((i + 1 : Nat) : Int) := wrapN (by omega) (by omega)
   have hd : l.drop i = l[i] :: l.drop (i + 1) := List.drop_eq_getElem_cons hlt
   rw [hd] at hM0
   generalize l[i] = m at f2 hM0
   have hM : MOk a b m ∧ xx ≤ m.a ∧ yy ≤ m.b ∧ ¬ ((m.a : Int) = xx ∧ (m.b : Int) = yy) ∧ MFrom a b (m.a + m.len) (m.b + m.len) false (l.drop (i + 1)) := by
     rcases hM0 with ⟨rfl, rfl, m0, m1, m2, m3, m4⟩ | ⟨x, y, rfl, rfl, _, _, m0, m1, m2, m3, m4⟩
     · exact ⟨m0, by omega, by omega, by omega, m4⟩
     · refine ⟨m0, by omega, by omega, ?_, m4⟩
       rcases m3 with m3 | m3
       · cases m3
       · omega
   clear hM0 hd
   obtain ⟨⟨o1, o2, o3, o4⟩, m1, m2, m3, m4⟩ := hM
   obtain ⟨p, q, n⟩ := m
   dsimp only at o1 o2 o3 o4 m1 m2 m3 m4
   have hmm : mm - 1 < mm ∧ mm - 1 + (i + 1) = l.length := cntA hm hlt
   clear hm
   have g1 : decide ((n : Int) < 1) = false := by simp; omega
   have g2 : decide ((p : Int) < 0) = false := by simp
   have g3 : decide ((q : Int) < 0) = false := by simp
   have g6 : IntKind.i64.wrap ((a.length : Int) - (n : Int)) = (a.length : Int) - (n : Int) := subN (by omega) (by omega)
   have g7 : IntKind.i64.wrap ((b.length : Int) - (n : Int)) = (b.length : Int) - (n : Int) := subN (by omega) (by omega)
   have g8 : decide ((p : Int) > (a.length : Int) - (n : Int)) = false := by simp; omega
   have g9 : decide ((q : Int) > (b.length : Int) - (n : Int)) = false := by simp; omega
   have k1 : decide ((p : Int) < xx) = false := by simp; omega
   have k2 : decide ((q : Int) < yy) = false := by simp; omega
   have k4 : IntKind.i64.wrap ((p : Int) + (n : Int)) = ((p + n : Nat) : Int) := addN (by omega) (by omega)
   have k5 : IntKind.i64.wrap ((q : Int) + (n : Int)) = ((q + n : Nat) : Int) := addN (by omega) (by omega)
   have i1 : (p : Int) ≤ ((p + n : Nat) : Int) := by omega
   have i2 : ((p + n : Nat) : Int) ≤ (a.length : Int) := by omega
   have i3 : (q : Int) ≤ ((q + n : Nat) : Int) := by omega
   have i4 : ((q + n : Nat) : Int) ≤ (b.length : Int) := by omega
   have hseg : (b.take (q + n)).drop q = (a.take (p + n)).drop p := by
     refine List.ext_getElem? fun j => ?_
     rw [List.getElem?_drop, List.getElem?_drop, List.getElem?_take, List.getElem?_take]
     by_cases hj : j < n
     · rw [if_pos (by omega), if_pos (by omega), o4 j hj]
     · rw [if_neg (by omega), if_neg (by omega)]
   have heq := EqualStrings_fn ((a.take (p + n)).drop p) (by rw [List.length_drop, List.length_take]; omega)
   have r33 : 3 ≤ 3 := Nat.le_refl _
   have hcase : ((p : Int) == xx) = false ∨ (((p : Int) == xx) = true ∧ ((q : Int) == yy) = false) := by
     by_cases hpx : (p : Int) = xx
     · right; refine ⟨by simp [hpx], ?_⟩; simp; omega
     · left; simp [hpx]
   rcases hcase with c2 | ⟨c2, c3⟩
   all_goals (
     simp only [*, dMt, ↓Both_true, ↓Both_false, wx, reduceCtorEq, reduceIte, Nat.reduceAdd, Nat.reduceEqDiff, Nat.reduceLT, Nat.reduceLeDiff, wj, ← List.map_take, ← List.map_drop]
     refine CallM.data heq rfl ?_
     simp only [dMt, *, dBool, ↓Both_true, ↓Both_false, wx, reduceCtorEq, reduceIte, Nat.reduceAdd, Nat.reduceEqDiff, Nat.reduceLT, Nat.reduceLeDiff, wj, ← List.map_take, ← List.map_drop]
     exact ⟨(ordF_coarse (by simp only [List.map_cons, List.map_nil, coarse_rd, coarse_wr]; rfl)), (ordF_coarse (by simp only [List.map_cons, List.map_nil, coarse_rd, coarse_wr]; rfl)), mm - 1, (i + 1, ((p + n : Nat) : Int), ((q + n : Nat) : Int), J ++ [.cells [.d (.sc (.int .i64 p)), .d (.sc (.int .i64 q)), .d (.sc (.int .i64 n))]]), hmm.1, ⟨rfl, rfl, rfl⟩, rfl, hmm.2, .inr ⟨p + n, q + n, rfl, rfl, o2, o3, m4⟩⟩)
 · have f1 : decide ((i : Int) < (l.length : Int)) = false := by simpa using hlt
   simp only [f1, deepD, AV.toL, ↓Both_true, ↓Both_false, wx, reduceCtorEq, reduceIte, Nat.reduceAdd, Nat.reduceEqDiff, Nat.reduceLT, Nat.reduceLeDiff, wj, ← List.map_take, ← List.map_drop]
end Go.Proofs.Lh

namespace Go.Proofs.Lh
open Go Go.Bb Go.RowKit Go.Proofs.Lg
def hkF (id : Nat) (out : List Hk) : AV := if out = [] then .nil 3 else .tsl id 3 (out.map dHk)
theorem hkF_nil (id : Nat) : hkF id [] = .nil 3 := rfl
theorem hkF_ne {id : Nat} {out : List Hk} (h : out ≠ []) : hkF id out = .tsl id 3 (out.map dHk) := if_neg h
theorem hkF_d (s : List AObj) (n id : Nat) (out : List Hk) : deepD s (n + 1) (hkF id out) = some (dHks out) := by
 unfold hkF
 by_cases h : out = []
 · rw [if_pos h, h]; rfl
 · rw [if_neg h]; rfl
def mEndL (a b : List ByteArray) (l : List Mt) : List Mt := l ++ [⟨a.length, b.length, 0⟩]
def hEnd (a b : List ByteArray) : Nat → Nat → List Mt → List Hk
 | _, _, [] => []
 | i, k, m :: l => hOne a b i k m.a m.b ++ hEnd a b (m.a + m.len) (m.b + m.len) l
theorem hEnd_eq (a b : List ByteArray) : ∀ (l : List Mt) (i k : Nat), hEnd a b i k (mEndL a b l) = hGo a b i k l
 | [], i, k => by rw [hGo_nil]; exact List.append_nil _
 | m :: l, i, k => by
   rw [mEndL, List.cons_append, hEnd, hGo_cons]
   exact congrArg _ (hEnd_eq a b l _ _)
def MIn (a b : List ByteArray) : Nat → Nat → List Mt → Prop
 | _, _, [] => True
 | x, y, m :: l => x ≤ m.a ∧ y ≤ m.b ∧ m.a + m.len ≤ a.length ∧ m.b + m.len ≤ b.length ∧ MIn a b (m.a + m.len) (m.b + m.len) l
theorem MIn_end (a b : List ByteArray) : ∀ (l : List Mt) (x y : Nat) (f : Bool), x ≤ a.length → y ≤ b.length → MFrom a b x y f l → MIn a b x y (mEndL a b l)
 | [], _, _, _, h1, h2, _ => ⟨h1, h2, Nat.le_refl _, Nat.le_refl _, trivial⟩
 | _ :: l, _, _, _, _, _, ⟨⟨_, o2, o3, _⟩, m1, m2, _, m4⟩ => ⟨m1, m2, o2, o3, MIn_end a b l _ _ _ o2 o3 m4⟩
set_option maxRecDepth 10000 in
set_option maxHeartbeats 2000000 in
theorem hunksOf_K (a b : List ByteArray) (l : List Mt) (v : AV) (hv : (l = [] ∧ v = .nil 3) ∨ (l ≠ [] ∧ v = .d (dMts l))) (h : MFrom a b 0 0 true l) (ha : a.length ≤ 1000000) (hb : b.length ≤ 1000000) (hl : l.length ≤ 1000000) :
   FnK Tryz.prog 57 [.d (dStrs a), .d (dStrs b), v] [] fun d s => deepD s 5 d = some (.tup [dHks (hGo a b 0 0 l), .sc (.int .i64 0)]) := by
 have hck := myersCheck_fn a b l h ha hb hl
 have q1 : ((0 : Int) != 0) = false := by decide
 have hI := MIn_end a b l 0 0 true (Nat.zero_le _) (Nat.zero_le _) h
 rw [← hEnd_eq]
 have hel : (mEndL a b l).length = l.length + 1 := by simp [mEndL]
 clear h
 refine FnK.of (F := k_hunksOf) (okb_hunksOf.trans (by kernel_rfl)) (by simp [k_hunksOf]) ?_
 simp only [k_hunksOf, dStrs, ↓Both_true, ↓Both_false, wx, reduceCtorEq, reduceIte, Nat.reduceAdd, Nat.reduceEqDiff, Nat.reduceLT, Nat.reduceLeDiff, wj, ← List.map_take, ← List.map_drop]
 refine CallM.data hck (by rcases hv with ⟨rfl, rfl⟩ | ⟨_, rfl⟩ <;> rfl) ?_
 simp only [dStrs, q1, ↓Both_true, ↓Both_false, wx, reduceCtorEq, reduceIte, Nat.reduceAdd, Nat.reduceEqDiff, Nat.reduceLT, Nat.reduceLeDiff, wj, ← List.map_take, ← List.map_drop]
 refine CallM.fn ?_
 generalize hR : hEnd a b 0 0 (mEndL a b l) = R
 rcases hv with ⟨hl0, rfl⟩ | ⟨hl0, rfl⟩
 case' inl =>
   refine FnK.mono (CloneMatches_nil []) ?_
   rintro d s' ⟨rfl, rfl⟩
   have c1 : roomOk 1 24 = true := by decide
   obtain ⟨idc, hidc⟩ : ∃ n : Nat, n = 1 := ⟨_, rfl⟩
   simp only [dStrs, q1, c1, ↓Both_true, ↓Both_false, wx, reduceCtorEq, reduceIte, Nat.reduceAdd, Nat.reduceEqDiff, Nat.reduceLT, Nat.reduceLeDiff, wj, ← List.map_take, ← List.map_drop]
   obtain ⟨LL, rfl⟩ : ∃ LL : List Mt, LL = l := ⟨_, rfl⟩
   have hLL := hl0
 case' inr =>
   obtain ⟨m0, l0, rfl⟩ : ∃ m0 l0, l = m0 :: l0 := by cases l with | nil => exact absurd rfl hl0 | cons m l => exact ⟨m, l, rfl⟩
   refine FnK.mono (CloneMatches_cons m0 l0 (by simp at hl; omega) []) ?_
   rintro d s' ⟨rfl, rfl⟩
   have c1 : roomOk (l0.length + 1 + 1) 24 = true := by simp [roomOk] at hl ⊢; omega
   obtain ⟨idc, hidc⟩ : ∃ n : Nat, n = 0 := ⟨_, rfl⟩
   simp only [dStrs, q1, c1, ↓Both_true, ↓Both_false, wx, reduceCtorEq, reduceIte, Nat.reduceAdd, Nat.reduceEqDiff, Nat.reduceLT, Nat.reduceLeDiff, wj, ← List.map_take, ← List.map_drop]
   obtain ⟨LL, hLL⟩ : ∃ LL : List Mt, LL = m0 :: l0 := ⟨_, rfl⟩
   rw [← hLL] at hR hI hel hl
 all_goals (
   refine LoopK.at (fun s : Nat × Nat × Nat × List Hk × Nat × List AObj => [(31, .d (.sc (.int .i64 s.1))), (30, .d (.sc (.int .i64 ((mEndL a b LL).length : Nat)))), (29, .tsl idc 3 ((mEndL a b LL).map dMt)), (10, .d (.sc (.int .i64 s.2.1))), (11, .d (.sc (.int .i64 s.2.2.1))), (9, hkF s.2.2.2.2.1 s.2.2.2.1), (0, .d (.sl 1 (a.map strow))), (1, .d (.sl 1 (b.map strow)))])
     (fun s => s.2.2.2.2.2)
     (fun mm s => mm + s.1 = (mEndL a b LL).length ∧ s.2.2.2.1.length ≤ s.1 ∧ MIn a b s.2.1 s.2.2.1 ((mEndL a b LL).drop s.1) ∧ s.2.2.2.1 ++ hEnd a b s.2.1 s.2.2.1 ((mEndL a b LL).drop s.1) = R ∧ (s.2.2.2.1 ≠ [] → s.2.2.2.2.2[s.2.2.2.2.1]? = some (.row 109 3 s.2.2.2.1.length)))
     (mEndL a b LL).length (0, 0, 0, [], 0, _) (by simp [SubB, Go.Bb.look, intD, hidc, hkF, hLL, mEndL, dMt]) rfl ⟨rfl, Nat.le_refl _, hI, hR, fun h => absurd rfl h⟩ ?_
   rintro mm ⟨j, i, k, out, id, L⟩ ⟨hm, hol, hin, hout, hrow⟩
   dsimp only at hm hol hin hout hrow ⊢
   by_cases hlt : j < (mEndL a b LL).length
   · have f1 : decide ((j : Int) < ((mEndL a b LL).length : Int)) = true := by simpa using hlt
     have f2 : (mEndL a b LL)[j]? = some (mEndL a b LL)[j] := List.getElem?_eq_getElem hlt
     have f3 : IntKind.i64.wrap ((j : Int) + 1) = ((j + 1 : Nat) : Int) := wrapN (by omega) (by omega)
     have hd : (mEndL a b LL).drop j = (mEndL a b LL)[j] :: (mEndL a b LL).drop (j + 1) := List.drop_eq_getElem_cons hlt
     rw [hd] at hin hout
     generalize (mEndL a b LL)[j] = m at f2 hin hout
     clear hd
     obtain ⟨x, y, n⟩ := m
     obtain ⟨n1, n2, n3, n4, hin⟩ := hin
     rw [hEnd] at hout
     dsimp only at n1 n2 n3 n4 hin hout
     have hmm : mm - 1 < mm ∧ mm - 1 + (j + 1) = (mEndL a b LL).length := cntA hm hlt
     have g1 : IntKind.i64.wrap ((x : Int) + (n : Int)) = ((x + n : Nat) : Int) := addN (by omega) (by omega)
     have g2 : IntKind.i64.wrap ((y : Int) + (n : Int)) = ((y + n : Nat) : Int) := addN (by omega) (by omega)
     have i1 : (i : Int) ≤ (x : Int) := by omega
     have i2 : (x : Int) ≤ (a.length : Int) := by omega
     have i3 : (k : Int) ≤ (y : Int) := by omega
     have i4 : (y : Int) ≤ (b.length : Int) := by omega
     have r33 : 3 ≤ 3 := Nat.le_refl _
     have hca := CloneStrings_fn ((a.take x).drop i) (by rw [List.length_drop, List.length_take]; omega)
     have hcb := CloneStrings_fn ((b.take y).drop k) (by rw [List.length_drop, List.length_take]; omega)
     have hone : (x > i ∨ y > k) → hOne a b i k x y = [⟨i, (a.take x).drop i, (b.take y).drop k⟩] := fun hc => if_pos hc
     have hnone : ¬ (x > i ∨ y > k) → hOne a b i k x y = [] := fun hc => if_neg hc
     have hro : roomOk (out.length + 1) 56 = true := by simp [roomOk]; omega
     have hro1 : roomOk 1 56 = true := by decide
     have hcase : (decide (i < x) = true ∧ (x > i ∨ y > k)) ∨ (decide (i < x) = false ∧ decide (k < y) = true ∧ (x > i ∨ y > k)) ∨ (decide (i < x) = false ∧ decide (k < y) = false ∧ ¬ (x > i ∨ y > k)) := by
       by_cases e1 : i < x
       · exact .inl ⟨by simpa using e1, .inl e1⟩
       · by_cases e2 : k < y
         · exact .inr (.inl ⟨by simpa using e1, by simpa using e2, .inr e2⟩)
         · exact .inr (.inr ⟨by simpa using e1, by simpa using e2, by omega⟩)
     clear hm hlt
     by_cases ho : out = []
     · subst ho
       rw [hkF_nil]
       rcases hcase with ⟨e1, e3⟩ | ⟨e1, e2, e3⟩ | ⟨e1, e2, e3⟩
       · simp only [f1, f2, e1, gtN, r33, i1, i2, i3, i4, dMt, ↓Both_true, ↓Both_false, wx, reduceCtorEq, reduceIte, Nat.reduceAdd, Nat.reduceEqDiff, Nat.reduceLT, Nat.reduceLeDiff, wj, ← List.map_take, ← List.map_drop]
         refine CallM.data hca rfl ?_
         simp only [f1, f2, e1, gtN, r33, i1, i2, i3, i4, dMt, ↓Both_true, ↓Both_false, wx, reduceCtorEq, reduceIte, Nat.reduceAdd, Nat.reduceEqDiff, Nat.reduceLT, Nat.reduceLeDiff, wj, ← List.map_take, ← List.map_drop]
         refine CallM.data hcb rfl ?_
         simp only [f1, f2, f3, e1, gtN, r33, i1, i2, i3, i4, g1, g2, hro1, dMt, dStrs, ↓Both_true, ↓Both_false, wx, reduceCtorEq, reduceIte, Nat.reduceAdd, Nat.reduceEqDiff, Nat.reduceLT, Nat.reduceLeDiff, wj, ← List.map_take, ← List.map_drop]
         exact ⟨(ordF_coarse (by simp only [List.map_cons, List.map_nil, coarse_rd, coarse_wr]; rfl)), (ordF_coarse (by simp only [List.map_cons, List.map_nil, coarse_rd, coarse_wr]; rfl)), mm - 1, (j + 1, x + n, y + n, [⟨i, (a.take x).drop i, (b.take y).drop k⟩], L.length + 2, L ++ [.cells [.d (.sc (.int .i64 x)), .d (.sc (.int .i64 y)), .d (.sc (.int .i64 n))], .row 109 3 1, .row 109 3 1]), hmm.1, ⟨rfl, rfl, rfl, rfl⟩, rfl, hmm.2, by dsimp only [List.length_cons, List.length_nil]; omega, hin, by rw [hone e3] at hout; exact hout, fun _ => by dsimp only; rw [getJn]; rfl⟩
       · simp only [f1, f2, e1, e2, gtN, r33, i1, i2, i3, i4, dMt, ↓Both_true, ↓Both_false, wx, reduceCtorEq, reduceIte, Nat.reduceAdd, Nat.reduceEqDiff, Nat.reduceLT, Nat.reduceLeDiff, wj, ← List.map_take, ← List.map_drop]
         refine CallM.data hca rfl ?_
         simp only [f1, f2, e1, e2, gtN, r33, i1, i2, i3, i4, dMt, ↓Both_true, ↓Both_false, wx, reduceCtorEq, reduceIte, Nat.reduceAdd, Nat.reduceEqDiff, Nat.reduceLT, Nat.reduceLeDiff, wj, ← List.map_take, ← List.map_drop]
         refine CallM.data hcb rfl ?_
         simp only [f1, f2, f3, e1, e2, gtN, r33, i1, i2, i3, i4, g1, g2, hro1, dMt, dStrs, ↓Both_true, ↓Both_false, wx, reduceCtorEq, reduceIte, Nat.reduceAdd, Nat.reduceEqDiff, Nat.reduceLT, Nat.reduceLeDiff, wj, ← List.map_take, ← List.map_drop]
         exact ⟨(ordF_coarse (by simp only [List.map_cons, List.map_nil, coarse_rd, coarse_wr]; rfl)), (ordF_coarse (by simp only [List.map_cons, List.map_nil, coarse_rd, coarse_wr]; rfl)), mm - 1, (j + 1, x + n, y + n, [⟨i, (a.take x).drop i, (b.take y).drop k⟩], L.length + 2, L ++ [.cells [.d (.sc (.int .i64 x)), .d (.sc (.int .i64 y)), .d (.sc (.int .i64 n))], .row 109 3 1, .row 109 3 1]), hmm.1, ⟨rfl, rfl, rfl, rfl⟩, rfl, hmm.2, by dsimp only [List.length_cons, List.length_nil]; omega, hin, by rw [hone e3] at hout; exact hout, fun _ => by dsimp only; rw [getJn]; rfl⟩
       · simp only [f1, f2, f3, e1, e2, gtN, r33, i1, i2, i3, i4, g1, g2, dMt, dStrs, ↓Both_true, ↓Both_false, wx, reduceCtorEq, reduceIte, Nat.reduceAdd, Nat.reduceEqDiff, Nat.reduceLT, Nat.reduceLeDiff, wj, ← List.map_take, ← List.map_drop]
         exact ⟨(ordF_coarse (by simp only [List.map_cons, List.map_nil, coarse_rd, coarse_wr]; rfl)), mm - 1, (j + 1, x + n, y + n, [], 0, L ++ [.cells [.d (.sc (.int .i64 x)), .d (.sc (.int .i64 y)), .d (.sc (.int .i64 n))]]), hmm.1, ⟨rfl, rfl, rfl, rfl⟩, rfl, hmm.2, Nat.zero_le _, hin, by rw [hnone e3] at hout; exact hout, fun h => absurd rfl h⟩
     · rw [hkF_ne ho]
       have hLX : ∀ K, (L ++ K)[id]? = some (.row 109 3 out.length) := fun K => by rw [List.getElem?_append_left (List.getElem?_eq_some_iff.1 (hrow ho)).1]; exact hrow ho
       have hLS : ∀ (K : List AObj) (z : AObj), (L ++ K).set id z = L.set id z ++ K := fun K z => List.set_append_left _ _ (List.getElem?_eq_some_iff.1 (hrow ho)).1
       have hidl : id < L.length := (List.getElem?_eq_some_iff.1 (hrow ho)).1
       have hLG : ∀ (z : AObj) (K : List AObj), (L.set id z ++ K)[L.length]? = K[0]? := fun z K => by
         have := getJ0 (L.set id z) K
         rwa [List.length_set] at this
       rcases hcase with ⟨e1, e3⟩ | ⟨e1, e2, e3⟩ | ⟨e1, e2, e3⟩
       · simp only [f1, f2, e1, gtN, r33, i1, i2, i3, i4, dMt, ↓Both_true, ↓Both_false, wx, reduceCtorEq, reduceIte, Nat.reduceAdd, Nat.reduceEqDiff, Nat.reduceLT, Nat.reduceLeDiff, wj, ← List.map_take, ← List.map_drop]
         refine CallM.data hca rfl ?_
         simp only [f1, f2, e1, gtN, r33, i1, i2, i3, i4, dMt, ↓Both_true, ↓Both_false, wx, reduceCtorEq, reduceIte, Nat.reduceAdd, Nat.reduceEqDiff, Nat.reduceLT, Nat.reduceLeDiff, wj, ← List.map_take, ← List.map_drop]
         refine CallM.data hcb rfl ?_
         simp only [f1, f2, f3, e1, gtN, r33, i1, i2, i3, i4, g1, g2, hro, hLX, hLS, hLG, dMt, dStrs, ↓Both_true, ↓Both_false, wx, reduceCtorEq, reduceIte, Nat.reduceAdd, Nat.reduceEqDiff, Nat.reduceLT, Nat.reduceLeDiff, wj, ← List.map_take, ← List.map_drop]
         refine ⟨(ordF_coarse (by simp only [List.map_cons, List.map_nil, coarse_rd, coarse_wr]; rfl)), (ordF_coarse (by simp only [List.map_cons, List.map_nil, coarse_rd, coarse_wr]; rfl)), mm - 1, (j + 1, x + n, y + n, out ++ [⟨i, (a.take x).drop i, (b.take y).drop k⟩], id, L.set id (.row 109 3 (out.length + 1)) ++ [.cells [.d (.sc (.int .i64 x)), .d (.sc (.int .i64 y)), .d (.sc (.int .i64 n))], .row 109 3 1]), hmm.1, ⟨rfl, rfl, rfl, ?_⟩, rfl, hmm.2, by dsimp only; rw [List.length_append]; simp; omega, hin, by rw [hone e3] at hout; rw [← List.append_assoc] at hout; exact hout, fun _ => ?_⟩
         · dsimp only; rw [hkF_ne (by simp), List.map_append]; rfl
         · dsimp only
           rw [List.getElem?_append_left (by rw [List.length_set]; exact hidl), List.getElem?_set_self hidl, List.length_append]; rfl
       · simp only [f1, f2, e1, e2, gtN, r33, i1, i2, i3, i4, dMt, ↓Both_true, ↓Both_false, wx, reduceCtorEq, reduceIte, Nat.reduceAdd, Nat.reduceEqDiff, Nat.reduceLT, Nat.reduceLeDiff, wj, ← List.map_take, ← List.map_drop]
         refine CallM.data hca rfl ?_
         simp only [f1, f2, e1, e2, gtN, r33, i1, i2, i3, i4, dMt, ↓Both_true, ↓Both_false, wx, reduceCtorEq, reduceIte, Nat.reduceAdd, Nat.reduceEqDiff, Nat.reduceLT, Nat.reduceLeDiff, wj, ← List.map_take, ← List.map_drop]
         refine CallM.data hcb rfl ?_
         simp only [f1, f2, f3, e1, e2, gtN, r33, i1, i2, i3, i4, g1, g2, hro, hLX, hLS, hLG, dMt, dStrs, ↓Both_true, ↓Both_false, wx, reduceCtorEq, reduceIte, Nat.reduceAdd, Nat.reduceEqDiff, Nat.reduceLT, Nat.reduceLeDiff, wj, ← List.map_take, ← List.map_drop]
         refine ⟨(ordF_coarse (by simp only [List.map_cons, List.map_nil, coarse_rd, coarse_wr]; rfl)), (ordF_coarse (by simp only [List.map_cons, List.map_nil, coarse_rd, coarse_wr]; rfl)), mm - 1, (j + 1, x + n, y + n, out ++ [⟨i, (a.take x).drop i, (b.take y).drop k⟩], id, L.set id (.row 109 3 (out.length + 1)) ++ [.cells [.d (.sc (.int .i64 x)), .d (.sc (.int .i64 y)), .d (.sc (.int .i64 n))], .row 109 3 1]), hmm.1, ⟨rfl, rfl, rfl, ?_⟩, rfl, hmm.2, by dsimp only; rw [List.length_append]; simp; omega, hin, by rw [hone e3] at hout; rw [← List.append_assoc] at hout; exact hout, fun _ => ?_⟩
         · dsimp only; rw [hkF_ne (by simp), List.map_append]; rfl
         · dsimp only
           rw [List.getElem?_append_left (by rw [List.length_set]; exact hidl), List.getElem?_set_self hidl, List.length_append]; rfl
       · simp only [f1, f2, f3, e1, e2, gtN, r33, i1, i2, i3, i4, g1, g2, dMt, dStrs, ↓Both_true, ↓Both_false, wx, reduceCtorEq, reduceIte, Nat.reduceAdd, Nat.reduceEqDiff, Nat.reduceLT, Nat.reduceLeDiff, wj, ← List.map_take, ← List.map_drop]
         exact ⟨(ordF_coarse (by simp only [List.map_cons, List.map_nil, coarse_rd, coarse_wr]; rfl)), mm - 1, (j + 1, x + n, y + n, out, id, L ++ [.cells [.d (.sc (.int .i64 x)), .d (.sc (.int .i64 y)), .d (.sc (.int .i64 n))]]), hmm.1, ⟨rfl, rfl, rfl, by dsimp only; rw [hkF_ne ho]⟩, rfl, hmm.2, by dsimp only; omega, hin, by rw [hnone e3] at hout; exact hout, fun _ => hLX _⟩
   · have f1 : decide ((j : Int) < ((mEndL a b LL).length : Int)) = false := by simpa using hlt
     have hd : (mEndL a b LL).drop j = [] := List.drop_eq_nil_of_le (by omega)
     rw [hd] at hout
     have hoR : out = R := by rw [← hout]; exact (List.append_nil _).symm
     subst hoR
     have hdd := hkF_d L 3 id out
     simp only [f1, ↓Both_true, ↓Both_false, wx, reduceCtorEq, reduceIte, Nat.reduceAdd, Nat.reduceEqDiff, Nat.reduceLT, Nat.reduceLeDiff, wj, ← List.map_take, ← List.map_drop]
     rw [hdd]
     rfl)
end Go.Proofs.Lh
