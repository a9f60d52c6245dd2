/-
  Part GAX of this claim's proof. Joined by merge.py from the texts of wip/tpl.
-/
import Derived.Test.YtclholnhkhjjaaaGreatGAW
import Derived.OrdersIn
import Derived.Test.YtclholnhkhjjaaaGreatGAB
import Derived.Lib.AppendZeros
import Derived.Test.YtclholnhkhjjaaaGreatGAC
set_option linter.unusedVariables false
set_option linter.unusedSimpArgs false
set_option linter.unnecessarySimpa false
namespace Go.Proofs.Lh
open Go Go.Bb Go.RowKit Go.Proofs.Lg
def KSt (s : List AObj) (a b : Nat) (rows : List Mt) : Prop :=
 s[1]? = some (.cells [.d (.sc (.int .i64 a))]) ∧ s[2]? = some (.cells [.d (.sc (.int .i64 b))]) ∧ ∃ v, s[0]? = some (.cells [v]) ∧ GrowR 65 3 s v (rows.map dMt)
theorem set_keep {s : List AObj} {i : Nat} {cs cs' : List AV} (hi : s[i]? = some (.cells cs)) (T sz : Nat) : ∀ j n : Nat, s[j]? = some (AObj.row T sz n) → (s.set i (.cells cs'))[j]? = some (AObj.row T sz n) := fun j n hj => by
 have : i ≠ j := fun e => by subst e; rw [hi] at hj; cases hj
 rw [List.getElem?_set_ne this]; exact hj
theorem set_at {s : List AObj} {i : Nat} {x y : AObj} (hi : s[i]? = some x) : (s.set i y)[i]? = some y := List.getElem?_set_self (List.getElem?_eq_some_iff.1 hi).1
theorem KSt.put {s : List AObj} {a b : Nat} {rows : List Mt} (h : KSt s a b rows) (a' b' : Nat) :
   (s.set 1 (.cells [.d (.sc (.int .i64 a'))]))[2]? = some (.cells [.d (.sc (.int .i64 b))]) ∧ KSt ((s.set 1 (.cells [.d (.sc (.int .i64 a'))])).set 2 (.cells [.d (.sc (.int .i64 b'))])) a' b' rows := by
 obtain ⟨h1, h2, v, h3, h4⟩ := h
 have e : (s.set 1 (.cells [.d (.sc (.int .i64 a'))]))[2]? = some (.cells [.d (.sc (.int .i64 b))]) := by rw [List.getElem?_set_ne (by decide)]; exact h2
 refine ⟨e, ?_, set_at e, v, ?_, ?_⟩
 · rw [List.getElem?_set_ne (by decide)]; exact set_at h1
 · rw [List.getElem?_set_ne (by decide), List.getElem?_set_ne (by decide)]; exact h3
 · exact (h4.keep (set_keep h1 65 3)).keep (set_keep e 65 3)
theorem KSt.more {s : List AObj} {a b : Nat} {rows : List Mt} (h : KSt s a b rows) (x : List AObj) : KSt (s ++ x) a b rows := by
 have ap : ∀ {j : Nat} {o : AObj}, s[j]? = some o → (s ++ x)[j]? = some o := fun hj => by rw [List.getElem?_append_left (List.getElem?_eq_some_iff.1 hj).1]; exact hj
 obtain ⟨h1, h2, v, h3, h4⟩ := h
 exact ⟨ap h1, ap h2, v, ap h3, h4.keep fun j n hj => ap hj⟩
set_option maxRecDepth 10000 in
set_option maxHeartbeats 2000000 in
theorem hkKeep_K (t a b : Nat) (rows : List Mt) (s : List AObj) (hs : KSt s a b rows) (hat : a ≤ t) (ht : t ≤ 1000000) (hb : b ≤ 500000000000) (hr : rows.length ≤ 1000000) :
   FnK Tryz.prog 66 [.d (.sc (.int .i64 t)), .ptr 1 0, .ptr 0 0, .ptr 2 0] s fun _ s' => KSt s' t (b + (t - a)) (rows ++ kSeg a b t) ∧ ∀ (j : Nat) (o : AObj), s[j]? = some o → 2 < j → (∀ n : Nat, o ≠ AObj.row 65 3 n) → s'[j]? = some o := by
 obtain ⟨k1, k2, v, k3, k4⟩ := hs
 refine FnK.of (F := k_hkKeep) (okb_hkKeep.trans (by kernel_rfl)) (by simp [k_hkKeep]) ?_
 by_cases hlt : a < t
 · have f1 : decide ((t : Int) > (a : Int)) = true := by simpa using hlt
   have f2 : IntKind.i64.wrap ((t : Int) - (a : Int)) = ((t - a : Nat) : Int) := wrapN (by omega) (by omega)
   have f3 : IntKind.i64.wrap ((b : Int) + (t : Int)) = ((b + t : Nat) : Int) := addN (by omega) (by omega)
   have f4 : IntKind.i64.wrap (((b + t : Nat) : Int) - (a : Int)) = ((b + (t - a) : Nat) : Int) := wrapN (by omega) (by omega)
   have r33 : 3 ≤ 3 := Nat.le_refl _
   have ap : ∀ {j : Nat} {o : AObj}, s[j]? = some o → (s ++ [AObj.row 65 3 1])[j]? = some o := fun hj => by rw [List.getElem?_append_left (List.getElem?_eq_some_iff.1 hj).1]; exact hj
   have r1 : roomOk ((rows.map dMt).length + 1) 24 = true := by simp only [roomOk, decide_eq_true_eq, List.length_map]; omega
   have r0 : roomOk 1 24 = true := by decide
   obtain ⟨v', s1, a1, a2, a3⟩ := app_grow (T := 65) (sz := 3) (bytes := 24) (y := .tsl s.length 3 [[.sc (.int .i64 a), .sc (.int .i64 b), .sc (.int .i64 ((t - a : Nat) : Int))]]) (ys := [[.sc (.int .i64 a), .sc (.int .i64 b), .sc (.int .i64 ((t - a : Nat) : Int))]]) (k4.keep fun j n hj => ap hj) rfl r1
   have b1 := a3 1 _ (ap k1) fun n h => by cases h
   have b2 := a3 2 _ (ap k2) fun n h => by cases h
   have b3 := a3 0 _ (ap k3) fun n h => by cases h
   have hv' : AV.cells v' = some [v'] := by
     rcases a2 with ⟨h, _⟩ | ⟨_, id, rfl, _⟩
     · simp at h
     · rfl
   have c1 : (s1.set 0 (.cells [v']))[1]? = some (.cells [.d (.sc (.int .i64 a))]) := by rw [List.getElem?_set_ne (by decide)]; exact b1
   have c2 : (s1.set 0 (.cells [v']))[2]? = some (.cells [.d (.sc (.int .i64 b))]) := by rw [List.getElem?_set_ne (by decide)]; exact b2
   have hk : KSt (s1.set 0 (.cells [v'])) a b (rows ++ [⟨a, b, t - a⟩]) := ⟨c1, c2, v', set_at b3, by rw [List.map_append]; exact a2.keep (set_keep b3 65 3)⟩
   obtain ⟨c3, hk2⟩ := hk.put t (b + (t - a))
   have hseg : kSeg a b t = [⟨a, b, t - a⟩] := if_pos hlt
   simp only [k_hkKeep, k1, k2, k3, f1, f2, f3, f4, r33, r0, a1, b1, b2, b3, c1, c2, c3, hv', ↓Both_true, ↓Both_false, wx, reduceCtorEq, reduceIte, Nat.reduceAdd, Nat.reduceEqDiff, Nat.reduceLT, Nat.reduceLeDiff, wj, ← List.map_take, ← List.map_drop]
   refine ⟨rfl, ?_⟩
   rw [hseg]
   refine ⟨hk2, fun j o hj h2 hn => ?_⟩
   rw [List.getElem?_set_ne (by omega), List.getElem?_set_ne (by omega), List.getElem?_set_ne (by omega)]
   exact a3 j o (ap hj) hn
 · obtain rfl : a = t := by omega
   have f1 : decide ((a : Int) > (a : Int)) = false := by simp
   have hseg : kSeg a b a = [] := if_neg (by omega)
   simp only [k_hkKeep, k1, f1, ↓Both_true, ↓Both_false, wx, reduceCtorEq, reduceIte, Nat.reduceAdd, Nat.reduceEqDiff, Nat.reduceLT, Nat.reduceLeDiff, wj, ← List.map_take, ← List.map_drop]
   rw [hseg, Nat.sub_self, List.append_nil]
   exact ⟨⟨k1, k2, v, k3, k4⟩, fun j o hj _ _ => hj⟩
theorem fine_or {B b : Nat} (h : b ≠ B) : fineB B (4 + 2 * b) = 6 := by unfold fineB; rw [if_neg (by omega), if_neg (by omega)]; omega
theorem kSeg_len (a b t : Nat) : (kSeg a b t).length ≤ 1 := by unfold kSeg; split <;> simp
set_option maxRecDepth 10000 in
set_option maxHeartbeats 4000000 in
theorem hkMatching_fn (A : List ByteArray) (l : List Hk) (hin : HIn A 0 true l) (hA : A.length ≤ 1000000) (hl : l.length ≤ 100000) (hf : ∀ h ∈ l, h.new.length ≤ 1000000) :
   AFn Tryz.prog 28 [.sc (.int .i64 (A.length : Nat)), dHks l] (dMts (kGo A.length 0 0 l)) := by
 have hpos := HIn_pos hin
 have hck := hkCheck_fn A l hin hA (by omega) hf
 have q1 : ((0 : Int) != 0) = false := by decide
 generalize hRR : kGo A.length 0 0 l = R at *
 refine AFn_of (F := k_hkMatching) (okb_hkMatching.trans (by kernel_rfl)) (by simp [k_hkMatching]) ?_
 simp only [k_hkMatching]
 rw [wpK_seq]
 generalize hQ1 : SeqQ _ _ = Q1
 simp only [↓Both_true, ↓Both_false, wx, reduceCtorEq, reduceIte, Nat.reduceAdd, Nat.reduceEqDiff, Nat.reduceLT, Nat.reduceLeDiff]
 subst hQ1
 simp only [SeqQ]
 rw [wpK_seq]
 generalize hQ2 : SeqQ _ _ = Q2
 simp only [↓Both_true, ↓Both_false, wx, reduceCtorEq, reduceIte, Nat.reduceAdd, Nat.reduceEqDiff, Nat.reduceLT, Nat.reduceLeDiff, wj, ← List.map_take, ← List.map_drop]
 refine CallM.data hck rfl ?_
 rcases Nat.eq_zero_or_pos l.length with h0 | hlt
 case' inl =>
   have g1 : decide ((l.length : Int) > 0) = false := by rw [h0]; rfl
   simp only [q1, g1, dHks, ↓Both_true, ↓Both_false, wx, reduceCtorEq, reduceIte, Nat.reduceAdd, Nat.reduceEqDiff, Nat.reduceLT, Nat.reduceLeDiff, wj, ← List.map_take, ← List.map_drop]
 case' inr =>
   have g1 : decide ((l.length : Int) > 0) = true := by simp; omega
   obtain ⟨h, hh⟩ : ∃ h, l[l.length - 1]? = some h := ⟨l[l.length - 1]'(by omega), List.getElem?_eq_getElem _⟩
   have g2 : IntKind.i64.wrap ((l.length : Int) - 1) = ((l.length - 1 : Nat) : Int) := wrapN (by omega) (by omega)
   have g3 := hpos h (List.mem_of_getElem? hh)
   have g4 : decide (((h.pos + h.old.length : Nat) : Int) > (A.length : Int)) = false := by simp; omega
   have r33 : 3 ≤ 3 := Nat.le_refl _
   simp only [q1, g1, g2, hh, r33, dHk, dHks, dStrs, ↓Both_true, ↓Both_false, wx, reduceCtorEq, reduceIte, Nat.reduceAdd, Nat.reduceEqDiff, Nat.reduceLT, Nat.reduceLeDiff, wj, ← List.map_take, ← List.map_drop]
   refine CallM.data (hkEnd_fn h (by omega)) rfl ?_
   simp only [q1, g1, g2, g4, hh, r33, dNat, dHk, dHks, dStrs, ↓Both_true, ↓Both_false, wx, reduceCtorEq, reduceIte, Nat.reduceAdd, Nat.reduceEqDiff, Nat.reduceLT, Nat.reduceLeDiff, wj, ← List.map_take, ← List.map_drop]
 all_goals (
   subst hQ2
   simp only [q1, dHks, ↓Both_true, ↓Both_false, wx, reduceCtorEq, reduceIte, Nat.reduceAdd, Nat.reduceEqDiff, Nat.reduceLT, Nat.reduceLeDiff, wj, ← List.map_take, ← List.map_drop]
   refine LoopK.at (fun b : Nat × Nat × Nat × List Mt × List AObj => [(33, .d (.sc (.int .i64 b.1))), (32, .d (.sc (.int .i64 l.length))), (31, .d (.sl 3 (l.map dHk))), (8, .clo 66 [] [.ptr 1 0, .ptr 0 0, .ptr 2 0]), (5, .ptr 0 0), (6, .ptr 1 0), (7, .ptr 2 0), (0, .d (.sc (.int .i64 A.length)))]) (fun b => b.2.2.2.2)
     (fun m b => m + b.1 = l.length ∧ (∃ g, HIn A b.2.1 g (l.drop b.1)) ∧ KSt b.2.2.2.2 b.2.1 b.2.2.1 b.2.2.2.1 ∧ b.2.2.2.1 ++ kGo A.length b.2.1 b.2.2.1 (l.drop b.1) = R ∧ b.2.1 ≤ A.length ∧ b.2.2.1 ≤ b.1 * 2000000 ∧ b.2.2.2.1.length ≤ b.1) l.length (0, 0, 0, [], _) (by simp [SubB, Go.Bb.look, intD, dHks]) rfl ⟨rfl, ⟨true, hin⟩, ⟨rfl, rfl, _, rfl, GrowR.nil 65 3 _⟩, hRR, Nat.zero_le _, Nat.zero_le _, Nat.zero_le _⟩ ?_
   rintro mm ⟨i, a, b, rows, s⟩ ⟨hm, ⟨g, hi⟩, hk, hro, haA, hbb, hrl⟩
   dsimp only at hm hi hk hro haA hbb hrl ⊢
   by_cases hlt : i < l.length
   · have f1 : decide ((i : Int) < (l.length : Int)) = true := by simpa using hlt
     have f2 : l[i]? = some l[i] := List.getElem?_eq_getElem hlt
     have f3 : IntKind.i64.wrap ((i : Int) + 1) = ((i + 1 : Nat) : Int) := wrapN (by omega) (by omega)
     rw [List.drop_eq_getElem_cons hlt] at hi hro
     have hb1 := hpos l[i] (List.getElem_mem _)
     have hb2 := hf l[i] (List.getElem_mem _)
     generalize l[i] = h at *
     obtain ⟨c1, c2, c3, c4, c5, c6⟩ := hi
     rw [kGo] at hro
     have r33 : 3 ≤ 3 := Nat.le_refl _
     have hsl : 2 < s.length := (List.getElem?_eq_some_iff.1 hk.2.1).1
     have hb0 : (s ++ [AObj.cells [.d (.sc (.int .i64 h.pos)), .d (.sl 1 (h.old.map strow)), .d (.sl 1 (h.new.map strow))]])[s.length]? = some (.cells [.d (.sc (.int .i64 h.pos)), .d (.sl 1 (h.old.map strow)), .d (.sl 1 (h.new.map strow))]) := by simp
     simp only [f1, f2, r33, dHk, dStrs, ↓Both_true, ↓Both_false, wx, reduceCtorEq, reduceIte, Nat.reduceAdd, Nat.reduceEqDiff, Nat.reduceLT, Nat.reduceLeDiff, wj, ← List.map_take, ← List.map_drop]
     refine CallM.fn ?_
     refine (hkKeep_K h.pos a b rows _ (hk.more _) c1 (by omega) (by omega) (by omega)).mono ?_
     rintro d s1 ⟨hk1, hkeep⟩
     have hb3 := hkeep _ _ hb0 hsl fun n h => by cases h
     have d1 := hk1.1
     have d2 := hk1.2.1
     have e1 : IntKind.i64.wrap ((h.pos : Int) + (h.old.length : Int)) = ((h.pos + h.old.length : Nat) : Int) := addN (by omega) (by omega)
     have e2 : IntKind.i64.wrap (((b + (h.pos - a) : Nat) : Int) + (h.new.length : Int)) = ((b + (h.pos - a) + h.new.length : Nat) : Int) := addN (by omega) (by omega)
     obtain ⟨d3, hk2⟩ := hk1.put (h.pos + h.old.length) (b + (h.pos - a) + h.new.length)
     simp only [f3, hb3, d1, d2, d3, e1, e2, ↓Both_true, ↓Both_false, wx, reduceCtorEq, reduceIte, Nat.reduceAdd, Nat.reduceEqDiff, Nat.reduceLT, Nat.reduceLeDiff, wj, ← List.map_take, ← List.map_drop]
     have hne : s.length ≠ 1 := by omega
     have hsg := kSeg_len a b h.pos
     refine ⟨ordF_fine 1 ?_, mm - 1, (i + 1, h.pos + h.old.length, b + (h.pos - a) + h.new.length, rows ++ kSeg a b h.pos, _), by omega, rfl, rfl, by dsimp only; omega, ⟨false, c6⟩, hk2, by dsimp only; rw [List.append_assoc]; exact hro, c3, by dsimp only; omega, by dsimp only; rw [List.length_append]; omega⟩
     simp only [List.map_cons, List.map_nil, fine_0, fine_r, fine_w, fine_or hne, fine_or (show 2 ≠ 1 by decide), fine_o (show 2 ≠ 1 by decide)]
     rfl
   · have f1 : decide ((i : Int) < (l.length : Int)) = false := by simpa using hlt
     have hd : l.drop i = [] := List.drop_eq_nil_of_le (by omega)
     rw [hd, kGo] at hro
     simp only [f1, ↓Both_true, ↓Both_false, wx, reduceCtorEq, reduceIte, Nat.reduceAdd, Nat.reduceEqDiff, Nat.reduceLT, Nat.reduceLeDiff, wj, ← List.map_take, ← List.map_drop]
     refine CallM.fn ?_
     refine (hkKeep_K A.length a b rows _ hk haA hA (by omega) (by omega)).mono ?_
     rintro d s1 ⟨⟨_, _, v, d3, d4⟩, _⟩
     rw [hro] at d4
     have d5 := d4.deep
     simp only [d3, d5, dMts, ↓Both_true, ↓Both_false, wx, reduceCtorEq, reduceIte, Nat.reduceAdd, Nat.reduceEqDiff, Nat.reduceLT, Nat.reduceLeDiff, wj, ← List.map_take, ← List.map_drop])
end Go.Proofs.Lh

namespace Go.Proofs.Lg
open Go Go.RowKit
def noDefer (l : List Oper) : Bool := l.all fun o => match o.op with | .defer _ => false | _ => true
theorem opIn_of_wp {P : Program} {l n : Nat} {o : Oper} {a : Act} {w : World} {K : Act → World → Prop} {Q : Exit → Act → World → Prop} (hd : ∀ c, o.op ≠ .defer c) (h : o.wp P a w K Q) :
   o.wpIn (Fence.wide.inRound l) n P a w K Q := by
 refine ⟨fun _ _ => trivial, ?_⟩
 rw [Oper.semAt_eq _ _ _ hd]
 unfold Oper.wp at h
 generalize (execOp a.eval o).run P w = r at *
 cases r with
 | ok x w' =>
   cases x <;> simp only [Oper.upon] at h <;> simp only [Oper.uponIn]
   case value v => exact h
   case skip => exact h
   case defer d => exact h
   case enter f args => exact ⟨fun h0 => (by cases h0), (callsIn_wide (n := n - 1)).2 h⟩
   case row row args => exact ⟨fun h0 => (by cases h0), fun c cs _ => let ⟨v, w', r, s⟩ := h c cs; ⟨v, w', r, stepsIn_wide.2 s⟩⟩
 | halt x w' => cases x <;> simp only [Oper.upon] at h <;> simp only [Oper.uponIn] <;> exact h
theorem wpAnyIn_of_any {P : Program} {l n : Nat} {ops : Array Oper} {Q : Exit → Act → World → Prop} (hlo : ¬ LetsOut Q) (hd : ∀ (i : Nat) (o : Oper) c, ops[i]? = some o → o.op ≠ .defer c) :
   ∀ (f : Nat) (listed : Array Bool) (a : Act) (w : World), wpAny P .any ops Q f listed a w → wpAnyIn (Fence.wide.inRound l) n P .any ops Q f listed a w
 | 0, _, _, _, h => h
 | f + 1, listed, a, w, h => by
   refine ⟨h.1, fun i hi => ?_⟩
   have h2 := h.2 i hi
   unfold wpOp at h2
   unfold wpOpIn
   cases ho : ops[i]? with
   | none =>
     simp only [ho] at h2
     exact wpAnyIn_of_any hlo hd f _ _ _ h2
   | some o =>
     simp only [ho] at h2
     dsimp only
     split
     · rename_i hw
       rw [if_pos hw] at h2
       rcases h2 with h2 | h2
       · exact Oper.wpIn_mono (fun a w h => wpAnyIn_of_any hlo hd f _ a w h) (opIn_of_wp (fun c => hd i o c ho) h2)
       · exact absurd h2.2 hlo
     · rename_i hw
       rw [if_neg hw] at h2
       exact ⟨fun _ _ => trivial, wpAnyIn_of_any hlo hd f _ _ _ h2⟩
theorem wpIn_region_ord {P : Program} {lp n : Nat} {Q : Exit → Act → World → Prop} {id : Nat} {a : Act} {w : World} {l : List Oper} (C : World → Prop) (ex : Nat) (ord : List (Nat × Bool)) (hm : P.follows .mixedOrders = true)
   (hlo : ¬ LetsOut Q) (hnd : noDefer l = true)
   (hB : (Region.noSelect l.toArray && decide (ord.length = l.length) && ordB l.toArray ex ord (Array.replicate l.length false)) = true) (hC : C w.drew)
   (h : wpOrd P l.toArray Q C ex ord a w.drew) : (Code.region id l.toArray true).wpIn (Fence.wide.inRound lp) n P Q a w := by
 simp only [Bool.and_eq_true, decide_eq_true_eq] at hB
 obtain ⟨⟨hs, hn⟩, hB⟩ := hB
 refine wpIn_region_any hm (wpAnyIn_of_any hlo (fun i o c ho hc => ?_) _ _ _ _ (wpAny_of_E (C := C) (ex := ex) _ _ _ _ ?_))
 · have := List.all_eq_true.1 hnd o (by rw [List.getElem?_toArray] at ho; exact List.mem_of_getElem? ho)
   rw [hc] at this
   cases this
 · have := wpE_ord hs ord _ a w.drew hB (.inr hC) h
   rw [hn] at this
   simpa using this
end Go.Proofs.Lg

namespace Go.Proofs.Lg
open Go Go.RowKit
theorem zeroCells_one (z : Value) (n : Nat) : (Builtin.zeroCells #[z] n).size = n := by
 simp [Builtin.zeroCells]
set_option maxRecDepth 100000 in
set_option maxHeartbeats 1000000 in
theorem GrowInts_nil (n : Nat) (w : World) (hn : n ≤ 10000000) :
   Calls Tryz.prog 89 #[.slice none 0 0, .int .i64 n] w fun e w' => ∃ v, e = .returned v ∧ w'.ownsRow w.heap.size 3 1 v 0 [] ∧ Below w.heap.size w w' := by
 by_cases h0 : n = 0
 · subst h0
   go_enter Tryz.func89, Tryz.ntmps89
   go_wp2
   go_ret
   exact ⟨_, rfl, World.ownsRow_nil _ _ _ _, Below.refl _ _⟩
 · have h1 : 0 < n := by omega
   obtain ⟨i0, hi, hz0, hz1, hz2⟩ := info_parts info_int
   have hr := Lib.run_append_nil_zeros (P := Tryz.prog) w 29 3 29 3 i0 (.int .i64 0) .i64 .i64 Tryz.underlying29 Tryz.underlying3 hi hz0 n h1 (by omega) (by omega) (by rw [hz2]; omega)
   have HR := Lib.hid hr
   clear hr
   go_enter Tryz.func89, Tryz.ntmps89
   go_wp2_with (at_builtin; refine Lib.wpList_append_run _ rfl _ _ _ _ rfl _ _ rfl rfl _ _ HR.out ?_)
   go_ret
   refine ⟨_, rfl, ⟨rfl, .inr ⟨w.heap.size, grownCap w n 0 3, _, rfl, Nat.le_refl _, heap_alloc_new w _, Nat.zero_le _, grownCap_le_maxLen w n 0 _ (by unfold maxLen; omega), ?_, rfl⟩⟩, ((Below.refl _ _).alloc (Nat.le_refl _) _).drew⟩
   have := grownCap_ge w n 0 3
   rw [Array.size_append, zeroCells_one, zeroCells_one]
   omega
def tot (rows : List (List Int)) (k : Nat) : Nat := (rows.take k).flatten.length
theorem tot_succ {rows : List (List Int)} {k : Nat} (h : k < rows.length) : tot rows (k + 1) = tot rows k + rows[k].length := by
 unfold tot; rw [List.take_succ_eq_append_getElem h, List.flatten_append, List.length_append, List.flatten_singleton]
theorem tot_le (rows : List (List Int)) (k : Nat) : tot rows k ≤ rows.flatten.length := by
 unfold tot
 rw [show rows.flatten.length = ((rows.take k) ++ rows.drop k).flatten.length by rw [List.take_append_drop], List.flatten_append, List.length_append]; omega
set_option maxRecDepth 100000 in
set_option maxHeartbeats 4000000 in
theorem ConcatInts_any (rows : List (List Int)) (v : Value) (w : World) (h : SlOf w v (rows.map ints)) (hn : rows.length ≤ 10000000) (ht : rows.flatten.length ≤ 10000000) :
   Calls Tryz.prog 46 #[v] w fun e w' => ∃ u, e = .returned u ∧ w'.ownsRow w.heap.size 3 1 u rows.flatten.length (ints rows.flatten) ∧ Below w.heap.size w w' := by
 obtain ⟨vs, hv, hl, hrow⟩ := h
 obtain ⟨a, c, rfl, hc1, hc2, hcs⟩ := hv
 have hvl : vs.length = rows.length := by simpa using hl
 rw [hvl] at hc1 ⊢
 have hcell : ∀ k (h : k < rows.length), ∃ (b off : Nat) (u : Value) (cu : Option Addr × Nat), a = some ⟨b, off, none⟩ ∧ u = .slice cu.1 rows[k].length cu.2 ∧ w.cell? ⟨b, off + k, none⟩ = some u ∧ SlAt w u (ints rows[k]) := by
   intro k hk
   obtain ⟨b, off, ha, hcc⟩ := hcs (by intro e; subst e; simp at hvl; omega)
   have hk2 : k < vs.length := by omega
   have e1 : vs[k]? = some vs[k] := List.getElem?_eq_getElem hk2
   have hs := hrow k vs[k] (ints rows[k]) e1 (by rw [List.getElem?_map, List.getElem?_eq_getElem hk]; rfl)
   obtain ⟨au, cu, hu, _⟩ := id hs
   rw [ints_length] at hu
   exact ⟨b, off, vs[k], (au, cu), ha, hu, hcc k _ e1, hs⟩
 have HC := Lib.hid hcell
 have htle : ∀ k, tot rows k ≤ 10000000 := fun k => Nat.le_trans (tot_le rows k) ht
 have HT := Lib.hid htle
 clear hcell hcs hrow hl hvl htle ht
 go_enter Tryz.func46, Tryz.ntmps46
 go_wp2
 go_loop [3, 11] (fun t i => ∃ k : Nat, k ≤ rows.length ∧ i = .int .i64 k ∧ t = .int .i64 (tot rows k)) (fun _ i => rows.length - (intOf i).toNat)
 case atStart => exact ⟨0, Nat.zero_le _, rfl, rfl⟩
 case round =>
   obtain ⟨k, hk, rfl, rfl⟩ := hrel
   have ht1 := HT.out k
   by_cases hlt : k < rows.length
   · obtain ⟨b, off, u, ⟨au, cu⟩, rfl, hu, hc, hs⟩ := HC.out k hlt
     have HTS : Hid (tot rows (k + 1) = tot rows k + rows[k].length) := tot_succ hlt
     have ht2 := HT.out (k + 1)
     have hle : rows[k].length ≤ 10000000 := by have := HTS.out; omega
     dsimp only at hu
     subst hu
     generalize rows[k].length = m at *
     have hcl := cell_lt hc
     clear hs
     have hsm : (tot rows k : Int) + (m : Int) ≤ 10000000 := by have := HTS.out; omega
     go_wp2
     go_round
     case rel => exact ⟨k + 1, by omega, by go_num, by rw [HTS.out]; go_num⟩
     case measure => simp [intOf]; omega
   · have hkl : k = rows.length := by omega
     have htn : tot rows rows.length = rows.flatten.length := by unfold tot; rw [List.take_length]
     rw [hkl]
     have HTN := Lib.hid htn
     clear htn
     have ht0 := HT.out rows.length
     clear hkl hlt ht1
     have HG := Lib.hid (GrowInts_nil (tot rows rows.length) w ht0)
     go_wp2_with fail
     refine HG.out.mono ?_
     rintro e w1 ⟨u1, rfl, hown1, hb1⟩
     have HOW := Lib.hid hown1
     have HB1 := Lib.hid hb1
     obtain ⟨a1, c1, hu1⟩ := ownsRow_form hown1
     subst hu1
     clear hown1 hb1 HG
     have hs1 := HB1.out.size
     go_wp2
     go_loopg [6, 27] (rows.length + 1) (fun gk out i wr => ∃ k : Nat, i = .int .i64 k ∧ k ≤ rows.length ∧ gk + k = rows.length + 1 ∧ wr.ownsRow w.heap.size 3 1 out (tot rows k) (ints (rows.take k).flatten) ∧ Below w.heap.size w wr)
     case atStart => exact ⟨0, rfl, Nat.zero_le _, rfl, by simpa [tot, ints] using HOW.out, HB1.out⟩
     case round =>
       obtain ⟨k, rfl, hk, hgk, hown, hB⟩ := hrel
       have HO := Lib.hid hown
       have HB := Lib.hid hB
       obtain ⟨ao, co, hvo⟩ := ownsRow_form hown
       subst hvo
       have hsz := hB.size
       clear hown hB
       by_cases hlt : k < rows.length
       · obtain ⟨b, off, u, ⟨au, cu⟩, rfl, hu, hc, hs⟩ := HC.out k hlt
         have HTS : Hid (tot rows (k + 1) = tot rows k + rows[k].length) := tot_succ hlt
         have HTK : Hid (rows.take (k + 1) = rows.take k ++ [rows[k]]) := List.take_succ_eq_append_getElem hlt
         have ht1 := HT.out k
         have ht2 := HT.out (k + 1)
         have hle : rows[k].length ≤ 10000000 := by have := HTS.out; omega
         dsimp only at hu
         subst hu
         have hcr := below_cell HB.out hc
         have hcl := cell_lt hcr
         have hsrc := (hs.below HB.out).src
         rw [ints_length] at hsrc
         have HSRC := Lib.hid hsrc
         have HONE : Hid (∀ u ∈ ints rows[k], u.oneCell' = true) := oneCell_ints _
         clear hs hc hsrc
         generalize rows[k] = r at *
         have hsum : tot rows k + r.length ≤ 10000000 := by have := HTS.out; omega
         go_wp2_with (at_builtin; refine wpList_app rfl _ _ _ rfl w.heap.size 3 (.int .i64 0) 1 8 Tryz.underlying29 info_int rfl (by decide) _ (tot rows k) (ints (rows.take k).flatten) rfl HO.out _ r.length (ints r) rfl HSRC.out HONE.out (by omega) (by omega) (by omega) ?_; intro a' c' w2 hown2 hgrow2 hat2)
         go_roundg (gk - 1)
         case measure => omega
         case rel =>
           refine ⟨k + 1, by go_num, by omega, by omega, ?_, HB.out.grown hgrow2 hsz (fun j hj => (HO.out.lt j hj).1)⟩
           rw [HTK.out, HTS.out]
           simpa [ints] using hown2
       · have hkl : k = rows.length := by omega
         clear hlt hgk hk
         subst hkl
         have HOW2 : Hid (wr.ownsRow w.heap.size 3 1 (.slice ao (tot rows rows.length) co) rows.flatten.length (ints rows.flatten)) := by
           have := HO.out
           rw [List.take_length] at this
           rw [← HTN.out]
           exact Lib.hid this
         go_wp2
         go_ret
         exact ⟨_, rfl, HOW2.out, HB.out⟩
end Go.Proofs.Lg
