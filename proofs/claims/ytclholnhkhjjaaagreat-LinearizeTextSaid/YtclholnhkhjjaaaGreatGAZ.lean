/-
  Part GAZ of this claim's proof. Joined by merge.py from the texts of wip/tpl.
-/
import Derived.Test.YtclholnhkhjjaaaGreatGAY
import Derived.Test.YtclholnhkhjjaaaGreatGAB
import Derived.Test.YtclholnhkhjjaaaGreatGAK
import Derived.Test.YtclholnhkhjjaaaGreatGAS
import Derived.WalkKit
import Derived.OwnWalkIn
import Derived.TacticsInMore
import Derived.LoopNIn
import Derived.LoopIn
import Derived.Maps.AppendAt
import Derived.Maps.OwnIn
set_option linter.unusedVariables false
set_option linter.unusedSimpArgs false
set_option linter.unnecessarySimpa false
namespace Go.Proofs.Lg
open Go Go.Ab Go.Bb Go.RowKit Go.Proofs.Lh
def mRun (f : Nat → Option Nat) : List Nat → Int → List Mt → List Mt × Bool
 | [], _, out => (out, true)
 | i :: is, last, out => match f i with
   | none => mRun f is last out
   | some k => if (k : Int) < last then (out, false) else mRun f is k (mPut out i k)
theorem str_ne {x y : ByteArray} (h : x ≠ y) : (x.toList == y.toList) = false := by
 rw [Bool.eq_false_iff, Ne, beq_iff_eq, ByteArray.toList_eq, ByteArray.toList_eq]
 exact fun h' => h (ByteArray.ext (Array.toList_inj.mp h'))
theorem mPut_len (out : List Mt) (i k : Nat) : (mPut out i k).length ≤ out.length + 1 ∧ out.length ≤ (mPut out i k).length := by
 unfold mPut
 cases h : out.getLast? with
 | none => rw [List.getLast?_eq_none_iff] at h; subst h; exact ⟨Nat.le_refl _, Nat.zero_le _⟩
 | some m =>
   dsimp only
   have hne : out ≠ [] := fun e => by rw [e] at h; cases h
   have := List.length_pos_iff.2 hne
   split
   · simp; omega
   · simp
theorem vrow_35 {v : Vtx} (h : v.ok) : (vrow v).length = 35 := by simp [vrow, Vtx.cells, h.1]
theorem vrow_t35 {v : Vtx} (h : v.ok) : (vrow v).take 35 = vrow v := List.take_of_length_le (by rw [vrow_35 h]; exact Nat.le_refl _)
def SameV (x y : Vtx) : Prop := x.id = y.id ∧ x.n = y.n ∧ x.text = y.text
theorem SameV.split {x y : Vtx} (h : SameV x y) : x.id ++ [x.n] = y.id ++ [y.n] ∧ x.text = y.text := ⟨by rw [h.1, h.2.1], h.2.2⟩
def mtA (l : List Mt) : List AV := l.flatMap fun m => [.d (.sc (.int .i64 m.a)), .d (.sc (.int .i64 m.b)), .d (.sc (.int .i64 m.len))]
theorem mtA_len (l : List Mt) : (mtA l).length = l.length * 3 := by
 induction l with
 | nil => rfl
 | cons m l ih => rw [mtA, List.flatMap_cons, List.length_append, List.length_cons]; unfold mtA at ih; rw [ih]; simp; omega
theorem mtA_snoc (l : List Mt) (m : Mt) : mtA (l ++ [m]) = mtA l ++ [.d (.sc (.int .i64 m.a)), .d (.sc (.int .i64 m.b)), .d (.sc (.int .i64 m.len))] := by simp [mtA]
theorem mtA_get (l : List Mt) (m : Mt) : (mtA (l ++ [m]))[l.length * 3]? = some (.d (.sc (.int .i64 m.a))) ∧ (mtA (l ++ [m]))[l.length * 3 + 1]? = some (.d (.sc (.int .i64 m.b))) ∧ (mtA (l ++ [m]))[l.length * 3 + 2]? = some (.d (.sc (.int .i64 m.len))) := by
 rw [mtA_snoc]
 have h := mtA_len l
 refine ⟨?_, ?_, ?_⟩ <;> rw [List.getElem?_append_right (by omega)] <;> simp [h]
theorem mtA_put (l : List Mt) (m : Mt) (v : AV) : (mtA (l ++ [m])).take (l.length * 3 + 2) ++ (v :: (mtA (l ++ [m])).drop (l.length * 3 + 2 + 1)) = mtA l ++ [.d (.sc (.int .i64 m.a)), .d (.sc (.int .i64 m.b)), v] := by
 rw [mtA_snoc, ← mtA_len]
 rw [List.take_append, List.drop_append, List.take_of_length_le (by omega), List.drop_eq_nil_of_le (by omega)]
 have e1 : (mtA l).length + 2 - (mtA l).length = 2 := by omega
 have e2 : (mtA l).length + 2 + 1 - (mtA l).length = 3 := by omega
 rw [e1, e2]
 simp
theorem mtA_deep (l : List Mt) : chunk 3 l.length (l.flatMap dMt) = l.map dMt := by
 induction l with
 | nil => rfl
 | cons m l ih => 
   rw [List.length_cons, chunk, List.flatMap_cons, List.map_cons]
   simp only [dMt, List.cons_append, List.nil_append, List.take_succ_cons, List.take_zero, List.drop_succ_cons, List.drop_zero]
   exact congrArg _ ih
theorem mapO_mt (s : List AObj) (f : Nat) (l : List Mt) : mapO (deepD s (f + 1)) (mtA l) = some (l.flatMap dMt) := by
 induction l with
 | nil => rfl
 | cons m l ih =>
   unfold mtA at ih
   simp only [mtA, List.flatMap_cons, List.cons_append, List.nil_append, mapO, deepD, AV.toL, AV.toD, ih, dMt, Option.map_some, Option.bind_some]
def MtB (i : Nat) (out : List Mt) : Prop := ∀ m ∈ out, m.a + m.len ≤ i ∧ m.b + m.len ≤ 1000000
theorem MtB.mono {i j : Nat} {out : List Mt} (h : MtB i out) (hij : i ≤ j) : MtB j out := fun m hm => ⟨Nat.le_trans (h m hm).1 hij, (h m hm).2⟩
theorem MtB.put {i k : Nat} {out : List Mt} (h : MtB i out) (hk : k < 1000000) : MtB (i + 1) (mPut out i k) := by
 unfold mPut
 cases hl : out.getLast? with
 | none => intro m hm; simp at hm; subst hm; exact ⟨Nat.le_refl _, by dsimp only; omega⟩
 | some m =>
   have hmm := List.mem_of_getLast? hl
   dsimp only
   split
   · rename_i hc
     intro m' hm'
     rcases List.mem_append.1 hm' with hm' | hm'
     · exact (h.mono (Nat.le_succ _)) m' (List.dropLast_subset _ hm')
     · simp at hm'; subst hm'; exact ⟨by dsimp only; omega, by dsimp only; omega⟩
   · intro m' hm'
     rcases List.mem_append.1 hm' with hm' | hm'
     · exact (h.mono (Nat.le_succ _)) m' hm'
     · simp at hm'; subst hm'; exact ⟨Nat.le_refl _, by dsimp only; omega⟩
theorem mPut_yes {l : List Mt} {m : Mt} {i k : Nat} (h1 : m.a + m.len = i) (h2 : m.b + m.len = k) : mPut (l ++ [m]) i k = l ++ [⟨m.a, m.b, m.len + 1⟩] := by
 unfold mPut; rw [List.getLast?_append]
 simp [h1, h2]
theorem mPut_no {l : List Mt} {m : Mt} {i k : Nat} (h : ¬ (m.a + m.len = i ∧ m.b + m.len = k)) : mPut (l ++ [m]) i k = l ++ [m] ++ [⟨i, k, 1⟩] := by
 unfold mPut; rw [List.getLast?_append]
 simp only [List.getLast?_singleton, Option.some_or, h, if_false]
end Go.Proofs.Lg

namespace Go.Proofs.Lg
open Go Go.RowKit
theorem cmpInt_lt {a b : Int} : cmpInt a b < 0 ↔ a < b := by
 unfold cmpInt
 split <;> (try split) <;> omega
theorem lexCmp_trans : ∀ {a b c : List Int}, lexCmp a b ≤ 0 → lexCmp b c ≤ 0 → lexCmp a c ≤ 0 ∧ (lexCmp a c = 0 → lexCmp a b = 0 ∧ lexCmp b c = 0)
 | [], [], [], _, _ => by simp [lexCmp]
 | [], [], _ :: _, _, _ => by simp [lexCmp]
 | [], _ :: _, [], _, h => by simp [lexCmp] at h
 | [], _ :: _, _ :: _, _, _ => by simp [lexCmp]
 | _ :: _, [], _, h, _ => by simp [lexCmp] at h
 | _ :: _, _ :: _, [], _, h => by simp [lexCmp] at h
 | x :: a, y :: b, z :: c, h1, h2 => by
   have ih := lexCmp_trans (a := a) (b := b) (c := c)
   simp only [lexCmp] at *
   rcases Int.lt_trichotomy x y with hxy | hxy | hxy
   · have hxz : x < z := by
       rcases Int.lt_trichotomy y z with h | h | h
       · omega
       · omega
       · rw [if_neg (by omega), if_pos h] at h2; omega
     rw [if_pos hxz]
     exact ⟨by decide, fun h => by omega⟩
   · subst hxy
     rcases Int.lt_trichotomy x z with h | h | h
     · rw [if_pos h]
       exact ⟨by decide, fun h => by omega⟩
     · subst h
       simp only [Int.lt_irrefl, if_false] at *
       exact ih h1 h2
     · rw [if_neg (by omega), if_pos h] at h2; omega
   · rw [if_neg (by omega), if_pos hxy] at h1; omega
theorem cmpId_trans {a b c : List Int} {n m k : Int} (h1 : cmpId a n b m < 0) (h2 : cmpId b m c k < 0) : cmpId a n c k < 0 := by
 unfold cmpId at *
 have a1 : lexCmp a b ≤ 0 := by split at h1 <;> omega
 have a2 : lexCmp b c ≤ 0 := by split at h2 <;> omega
 obtain ⟨h3, h4⟩ := lexCmp_trans a1 a2
 by_cases h0 : lexCmp a c = 0
 · obtain ⟨k1, k2⟩ := h4 h0
   rw [if_pos k1, cmpInt_lt] at h1
   rw [if_pos k2, cmpInt_lt] at h2
   rw [if_pos h0, cmpInt_lt]
   omega
 · rw [if_neg h0]; omega
theorem linesOk_pair : ∀ {l : List Vtx}, linesOk l = true → l.Pairwise fun a b => a.cmp b < 0
 | [], _ => List.Pairwise.nil
 | [x], _ => by simp
 | x :: y :: l, h => by
   rw [linesOk_cons, Bool.and_eq_true, decide_eq_true_eq] at h
   obtain ⟨h1, h2⟩ := h
   have ih := linesOk_pair h2
   refine List.pairwise_cons.2 ⟨fun z hz => ?_, ih⟩
   rcases List.mem_cons.1 hz with rfl | hz
   · exact h1
   · exact cmpId_trans h1 ((List.pairwise_cons.1 ih).1 z hz)
end Go.Proofs.Lg

namespace Go.Proofs.Lg
open Go Go.RowKit
theorem lexCmp_self : ∀ a : List Int, lexCmp a a = 0
 | [] => rfl
 | x :: a => by simp [lexCmp, lexCmp_self a]
theorem Vtx.cmp_same {x y : Vtx} (h : x.id = y.id) (h' : x.n = y.n) : x.cmp y = 0 := by
 unfold Vtx.cmp cmpId
 rw [h, h', lexCmp_self, if_pos rfl]
 simp [cmpInt]
theorem ids_inj {l : List Vtx} (hl : linesOk l = true) {i j : Nat} {x y : Vtx} (hi : l[i]? = some x) (hj : l[j]? = some y) (h : x.id = y.id) (h' : x.n = y.n) : i = j := by
 have hp := linesOk_pair hl
 rw [List.pairwise_iff_getElem] at hp
 obtain ⟨hil, hix⟩ := List.getElem?_eq_some_iff.1 hi
 obtain ⟨hjl, hjy⟩ := List.getElem?_eq_some_iff.1 hj
 rcases Nat.lt_trichotomy i j with hlt | rfl | hlt
 · have := hp i j hil hjl hlt
   rw [hix, hjy, Vtx.cmp_same h h'] at this
   exact absurd this (by decide)
 · rfl
 · have := hp j i hjl hil hlt
   rw [hix, hjy, Vtx.cmp_same h.symm h'.symm] at this
   exact absurd this (by decide)
def sameB (x y : Vtx) : Bool := decide (x.id = y.id ∧ x.n = y.n) && (x.text.toList == y.text.toList)
theorem sameB_iff {x y : Vtx} : sameB x y = true ↔ SameV x y := by
 unfold sameB SameV
 rw [Bool.and_eq_true, decide_eq_true_eq]
 constructor
 · rintro ⟨⟨h1, h2⟩, h3⟩
   refine ⟨h1, h2, ?_⟩
   by_cases he : x.text = y.text
   · exact he
   · rw [str_ne he] at h3; cases h3
 · rintro ⟨h1, h2, h3⟩
   exact ⟨⟨h1, h2⟩, by rw [h3]; simp⟩
def fM (old new : Gr) (a b : List Nat) (i : Nat) : Option Nat := (a[i]?).bind fun p => (old.lines[p]?).bind fun x => b.findIdx? fun q => (new.lines[q]?).any (sameB x)
theorem fM_spec {old new : Gr} {a b : List Nat} {i k : Nat} (h : fM old new a b i = some k) : ∃ p q x y, a[i]? = some p ∧ b[k]? = some q ∧ old.lines[p]? = some x ∧ new.lines[q]? = some y ∧ SameV x y := by
 unfold fM at h
 obtain ⟨p, h1, h⟩ := Option.bind_eq_some_iff.1 h
 obtain ⟨x, h2, h⟩ := Option.bind_eq_some_iff.1 h
 obtain ⟨hk, h3, _⟩ := List.findIdx?_eq_some_iff_getElem.1 h
 cases h4 : new.lines[b[k]]? with
 | none => rw [h4] at h3; cases h3
 | some y =>
   rw [h4] at h3
   exact ⟨p, b[k], x, y, h1, List.getElem?_eq_getElem hk, h2, h4, sameB_iff.1 h3⟩
theorem fM_lt {old new : Gr} {a b : List Nat} {i k : Nat} (h : fM old new a b i = some k) : k < b.length := by
 obtain ⟨p, q, x, y, _, h2, _⟩ := fM_spec h
 exact (List.getElem?_eq_some_iff.1 h2).1
theorem nd_get {l : List Nat} (h : l.Nodup) {i j p : Nat} (hi : l[i]? = some p) (hj : l[j]? = some p) : i = j := by
 obtain ⟨hil, hix⟩ := List.getElem?_eq_some_iff.1 hi
 obtain ⟨hjl, hjy⟩ := List.getElem?_eq_some_iff.1 hj
 rcases Nat.lt_trichotomy i j with hlt | rfl | hlt
 · exact absurd (hix.trans hjy.symm) (List.pairwise_iff_getElem.1 h i j hil hjl hlt)
 · rfl
 · exact absurd (hjy.trans hix.symm) (List.pairwise_iff_getElem.1 h j i hjl hil hlt)
theorem fM_iff {old new : Gr} {a b : List Nat} (hn : linesOk new.lines = true) (hb : b.Nodup) {i k p q : Nat} {x y : Vtx} (h1 : a[i]? = some p) (h2 : b[k]? = some q) (h3 : old.lines[p]? = some x) (h4 : new.lines[q]? = some y) : fM old new a b i = some k ↔ SameV x y := by
 constructor
 · intro h
   obtain ⟨p', q', x', y', e1, e2, e3, e4, hs⟩ := fM_spec h
   rw [h1] at e1; obtain rfl := Option.some.inj e1
   rw [h2] at e2; obtain rfl := Option.some.inj e2
   rw [h3] at e3; obtain rfl := Option.some.inj e3
   rw [h4] at e4; obtain rfl := Option.some.inj e4
   exact hs
 · intro hs
   have hex : ∃ k', fM old new a b i = some k' := by
     unfold fM
     rw [h1, Option.bind_some, h3, Option.bind_some]
     cases hf : b.findIdx? (fun q => (new.lines[q]?).any (sameB x)) with
     | some k' => exact ⟨k', rfl⟩
     | none =>
       have := List.findIdx?_eq_none_iff.1 hf q (List.mem_of_getElem? h2)
       rw [h4] at this
       have hs' := sameB_iff.2 hs
       simp [hs'] at this
   obtain ⟨k', hk'⟩ := hex
   obtain ⟨p', q', x', y', e1, e2, e3, e4, hs2⟩ := fM_spec hk'
   rw [h1] at e1; obtain rfl := Option.some.inj e1
   rw [h3] at e3; obtain rfl := Option.some.inj e3
   have hq : q = q' := ids_inj hn h4 e4 (hs.1.symm.trans hs2.1) (hs.2.1.symm.trans hs2.2.1)
   subst hq
   rw [hk', nd_get hb e2 h2]
theorem fM_inj {old new : Gr} {a b : List Nat} (ho : linesOk old.lines = true) (ha : a.Nodup) {i j k : Nat} (hi : fM old new a b i = some k) (hj : fM old new a b j = some k) : i = j := by
 obtain ⟨p, q, x, y, e1, e2, e3, e4, hs⟩ := fM_spec hi
 obtain ⟨p', q', x', y', e1', e2', e3', e4', hs'⟩ := fM_spec hj
 rw [e2] at e2'; obtain rfl := Option.some.inj e2'
 rw [e4] at e4'; obtain rfl := Option.some.inj e4'
 have hp : p = p' := ids_inj ho e3 e3' (hs.1.trans hs'.1.symm) (hs.2.1.trans hs'.2.1.symm)
 subst hp
 exact nd_get ha e1 e1'
theorem mRun_mGo {f : Nat → Option Nat} (hinj : ∀ i j k, f i = some k → f j = some k → i = j) : ∀ (is : List Nat) (last : Int) (out : List Mt), is.Nodup → (∀ i ∈ is, ∀ k, f i = some k → (k : Int) ≠ last) →
   (∀ l, mGo f is last out = some l → mRun f is last out = (l, true)) ∧ (mGo f is last out = none → (mRun f is last out).2 = false)
 | [], last, out, _, _ => ⟨fun l h => by simp [mGo] at h; subst h; rfl, fun h => by simp [mGo] at h⟩
 | i :: is, last, out, hnd, hne => by
   obtain ⟨hn1, hn2⟩ := List.nodup_cons.1 hnd
   rw [mGo, mRun]
   cases hfi : f i with
   | none => exact mRun_mGo hinj is last out hn2 fun j hj => hne j (List.mem_cons_of_mem _ hj)
   | some k =>
     have hkl := hne i List.mem_cons_self k hfi
     dsimp only
     by_cases hlt : (k : Int) < last
     · rw [if_pos (Int.le_of_lt hlt), if_pos hlt]
       exact ⟨fun l h => absurd h (by simp), fun _ => rfl⟩
     · rw [if_neg (by omega), if_neg hlt]
       refine mRun_mGo hinj is k (mPut out i k) hn2 fun j hj k' hk' e => ?_
       have : k' = k := by omega
       subst this
       exact hn1 (hinj i j k' hfi hk' ▸ hj)
end Go.Proofs.Lg

namespace Go.Proofs.Lh
open Go Go.Bb Go.RowKit Go.Proofs.Lg
def ks33 : List SK := [.i, .i, .i, .i, .i, .i, .i, .i, .i, .i, .i, .i, .i, .i, .i, .i, .i, .i, .i, .i, .i, .i, .i, .i, .i, .i, .i, .i, .i, .i, .i, .i, .i]
def idVs (v : Vtx) : List Value := v.id.map (Value.int .u8) ++ [Value.int .i64 v.n]
theorem scsA_sc : ∀ (l : List Value), scsA (l.map fun u => AV.d (.sc u)) = some l
 | [] => rfl
 | u :: l => by rw [List.map_cons, scsA, scsA_sc l]; rfl
theorem idVs_len {v : Vtx} (h : v.ok) : (idVs v).length = 33 := by simp [idVs, h.1]
theorem vrow_id {v : Vtx} (h : v.ok) : (vrow v).take 33 = (idVs v).map .sc := by
 have h1 : ((v.id.map (Value.int .u8) ++ [Value.int .i64 v.n]).map Go.Ab.D.sc).length = 33 := by simp [h.1]
 have h2 : vrow v = (idVs v).map .sc ++ [.sc (.string v.text), .sc (.bool v.living)] := by simp [vrow, Vtx.cells, idVs]
 rw [h2, List.take_append, List.take_of_length_le (by rw [List.length_map, idVs_len h]; exact Nat.le_refl _), List.length_map, idVs_len h]
 simp
theorem key_id {v : Vtx} (h : v.ok) : AV.keyK true ks33 (.d (.agg ((vrow v).take 33))) = some (idVs v) := by
 have h1 : (idVs v).length = 33 := idVs_len h
 rw [vrow_id h]
 simp only [AV.keyK, AV.key, AV.row, Option.bind_some, List.map_map, if_true]
 have h2 : List.map (AV.d ∘ Go.Ab.D.sc) (idVs v) = (idVs v).map fun u => AV.d (.sc u) := rfl
 rw [h2, scsA_sc, Option.bind_some, if_pos (by rw [h1]; rfl)]
theorem eqKs_u8 : ∀ (x y : List Int) (ks : List SK) (us vs : List Value) (b : Bool), x.length = y.length → eqKs ks us vs = some b → eqKs (List.replicate x.length .i ++ ks) (x.map (Value.int .u8) ++ us) (y.map (Value.int .u8) ++ vs) = some (decide (x = y) && b)
 | [], [], _, _, _, _, _, h => by simpa using h
 | [], _ :: _, _, _, _, _, h, _ => by simp at h
 | _ :: _, [], _, _, _, _, h, _ => by simp at h
 | a :: x, c :: y, ks, us, vs, b, hl, h => by
   have ih := eqKs_u8 x y ks us vs b (by simpa using hl) h
   rw [List.length_cons, List.replicate_succ, List.cons_append, List.map_cons, List.map_cons, List.cons_append, List.cons_append, eqKs, if_pos rfl, ih]
   by_cases e : a = c
   · subst e; simp
   · have : (a == c) = false := by simpa using e
     simp [this, e]
theorem eqKs_id {x y : Vtx} (hx : x.ok) (hy : y.ok) : eqKs ks33 (idVs x) (idVs y) = some (decide (x.id = y.id) && decide (x.n = y.n)) := by
 have h1 : eqKs [SK.i] [Value.int .i64 x.n] [Value.int .i64 y.n] = some (decide (x.n = y.n)) := by
   rw [eqKs, if_pos rfl, eqKs]
   by_cases e : x.n = y.n <;> simp [e]
 have h2 := eqKs_u8 x.id y.id _ _ _ _ (hx.1.trans hy.1.symm) h1
 rw [hx.1] at h2
 exact h2
def plE (ls : List Vtx) : Nat → List Nat → List (List Value × AV)
 | _, [] => []
 | i, q :: l => (match ls[q]? with | some x => idVs x | none => [], .d (.sc (.int .i64 i))) :: plE ls (i + 1) l
theorem plE_snoc (ls : List Vtx) : ∀ (l : List Nat) (i q : Nat) (x : Vtx), ls[q]? = some x → plE ls i (l ++ [q]) = plE ls i l ++ [(idVs x, .d (.sc (.int .i64 ((i + l.length : Nat) : Int))))]
 | [], i, q, x, h => by simp [plE, h]
 | p :: l, i, q, x, h => by
   rw [List.cons_append, plE, plE, plE_snoc ls l (i + 1) q x h, List.cons_append, List.length_cons]
   have : i + 1 + l.length = i + (l.length + 1) := by omega
   rw [this]
def plF (ls : List Vtx) (x : Vtx) (b : List Nat) : Option Nat := b.findIdx? fun q => (ls[q]?).any fun y => decide (x.id = y.id) && decide (x.n = y.n)
theorem findE_plE {ls : List Vtx} (hls : ∀ y ∈ ls, y.ok) {x : Vtx} (hx : x.ok) : ∀ (b : List Nat) (i j : Nat), (∀ q ∈ b, q < ls.length) → findE ks33 (idVs x) (plE ls i b) j = some ((plF ls x b).map fun k => (j + k, .d (.sc (.int .i64 ((i + k : Nat) : Int)))))
 | [], i, j, _ => rfl
 | q :: b, i, j, h => by
   have hq := h q List.mem_cons_self
   have e : ls[q]? = some ls[q] := List.getElem?_eq_getElem hq
   have hy := hls _ (List.getElem_mem hq)
   rw [plE, findE, e]
   dsimp only
   rw [eqKs_id hx hy, Option.bind_some]
   unfold plF
   rw [List.findIdx?_cons, e, Option.any_some]
   cases hb : (decide (x.id = ls[q].id) && decide (x.n = ls[q].n)) with
   | true => simp
   | false =>
     rw [if_neg (by simp), if_neg (by simp), findE_plE hls hx b (i + 1) (j + 1) fun q hq => h q (List.mem_cons_of_mem _ hq)]
     unfold plF
     rw [Option.map_map]
     congr 2
     funext k
     simp only [Function.comp]
     have e1 : j + 1 + k = j + (k + 1) := by omega
     have e2 : i + 1 + k = i + (k + 1) := by omega
     rw [e1, e2]
def mtA (l : List Mt) : List AV := l.flatMap fun m => [.d (.sc (.int .i64 m.a)), .d (.sc (.int .i64 m.b)), .d (.sc (.int .i64 m.len))]
theorem mtA_len (l : List Mt) : (mtA l).length = l.length * 3 := by
 induction l with
 | nil => rfl
 | cons m l ih => rw [mtA, List.flatMap_cons, List.length_append, List.length_cons]; unfold mtA at ih; rw [ih]; simp; omega
theorem mtA_snoc (l : List Mt) (m : Mt) : mtA (l ++ [m]) = mtA l ++ [.d (.sc (.int .i64 m.a)), .d (.sc (.int .i64 m.b)), .d (.sc (.int .i64 m.len))] := by simp [mtA]
theorem mtA_get (l : List Mt) (m : Mt) : (mtA (l ++ [m]))[l.length * 3]? = some (.d (.sc (.int .i64 m.a))) ∧ (mtA (l ++ [m]))[l.length * 3 + 1]? = some (.d (.sc (.int .i64 m.b))) ∧ (mtA (l ++ [m]))[l.length * 3 + 2]? = some (.d (.sc (.int .i64 m.len))) := by
 rw [mtA_snoc]
 have h := mtA_len l
 refine ⟨?_, ?_, ?_⟩ <;> rw [List.getElem?_append_right (by omega)] <;> simp [h]
theorem mtA_put (l : List Mt) (m : Mt) (v : AV) : (mtA (l ++ [m])).take (l.length * 3 + 2) ++ (v :: (mtA (l ++ [m])).drop (l.length * 3 + 2 + 1)) = mtA l ++ [.d (.sc (.int .i64 m.a)), .d (.sc (.int .i64 m.b)), v] := by
 rw [mtA_snoc, ← mtA_len]
 rw [List.take_append, List.drop_append, List.take_of_length_le (by omega), List.drop_eq_nil_of_le (by omega)]
 have e1 : (mtA l).length + 2 - (mtA l).length = 2 := by omega
 have e2 : (mtA l).length + 2 + 1 - (mtA l).length = 3 := by omega
 rw [e1, e2]
 simp
theorem mtA_deep (l : List Mt) : chunk 3 l.length (l.flatMap dMt) = l.map dMt := by
 induction l with
 | nil => rfl
 | cons m l ih =>
   rw [List.length_cons, chunk, List.flatMap_cons, List.map_cons]
   simp only [dMt, List.cons_append, List.nil_append, List.take_succ_cons, List.take_zero, List.drop_succ_cons, List.drop_zero]
   exact congrArg _ ih
theorem mapO_mt (s : List AObj) (f : Nat) (l : List Mt) : mapO (deepD s (f + 1)) (mtA l) = some (l.flatMap dMt) := by
 induction l with
 | nil => rfl
 | cons m l ih =>
   unfold mtA at ih
   simp only [mtA, List.flatMap_cons, List.cons_append, List.nil_append, mapO, deepD, AV.toL, AV.toD, ih, dMt, Option.map_some, Option.bind_some]
end Go.Proofs.Lh

namespace Go.Proofs.Lg
open Go Go.RowKit Go.Shelf
def SeqTold {α : Type} (F : Fence) (n : Nat) (P : Program) (g : Nat) (lb : Array Value) (encs : α → Array Value) (T : α → World → Prop) (Kp : World → World → Prop) (S : List α → Prop) (N : Nat) (w : World) : Prop :=
 ∀ (l : Nat) (J : List α → World → Prop) (W : World), Below w.heap.size w W → (∀ xs A B, J xs A → Below A.heap.size A B → J xs B) →
   (∀ pre x W1, J pre W1 → pre.length < N → T x W1 → YieldAt F (n - 1) P l (encs x) W1 fun e W' => e = .returned (.bool true) ∧ J (pre ++ [x]) W' ∧ Kp W1 W') →
   J [] W → CallsIn F n P g (#[.func (.yield l) #[] #[]] ++ lb) W fun e W' => (∃ v, e = .returned v) ∧ ∃ xs, S xs ∧ J xs W'
def Steady (B : Nat) (I : World → Prop) : Prop := ∀ (A : World) (l : Nat) (o o' : Obj), B ≤ l → A.heap[l]? = some o → o.isCells = false → o.isWalk = false → I A → I (A.putObj l o')
theorem wpIn_rangeFunc_told {α : Type} {F : Fence} {n : Nat} {P : Program} {g : Operand} {ps : Array Tmp} {assign body : Code} {Q : Exit → Act → World → Prop} {a : Act} {w : World}
   (hro : F.round = none) (h1 : 1 ≤ n) {gf : Nat} {lb : Array Value} (hg : a.eval g = .func (.func gf) #[] lb) (hFg : F.fn gf) (eg : ∀ args w, (callFunc gf args).run P w = .ok (.enter gf args) w)
   {encs : α → Array Value} {T : α → World → Prop} {Kp : World → World → Prop} {S : List α → Prop} {N : Nat} {w0 : World} (hseq : SeqTold F (n - 1) P gf lb encs T Kp S N w0) (hb0 : Below w0.heap.size w0 w) (hps : ∀ x, (encs x).size = ps.size)
   (I : List α → World → Prop) (hIb : ∀ xs A B, I xs A → Below A.heap.size A B → I xs B) (hIl : ∀ xs, Steady w.heap.size (I xs)) (hTl : ∀ x, Steady w.heap.size (T x)) (hKt : ∀ {A B C : World}, Kp A B → Kp B C → Kp A C) (hKl : ∀ A, Steady w.heap.size (Kp A)) (hKr : ∀ A, Kp A A)
   (h0 : I [] w) (Ax : α → Act → World → Prop) (hAl : ∀ x a', Steady w.heap.size (Ax x a'))
   (hassign : ∀ (l : Nat) (pre : List α) (x : α) (W : World) (K : Act → World → Prop), I pre W → T x W → (∀ a' W', KeepsFrom w.heap.size W W' → Kp W W' → I pre W' → T x W' → Ax x a' W' → K a' W') →
     assign.wpIn (F.inRound l) (n - 1 - 1) P (Exit.then K (fun _ _ _ => False)) { tmps := (ps.zip (encs x)).foldl (fun t (p, v) => t.setIfInBounds p v) a.tmps, defers := [] } W)
   (hbody : ∀ (l : Nat) (pre : List α) (x : α) (a' : Act) (W : World), I pre W → T x W → Ax x a' W → pre.length < N →
     body.wpIn (F.inRound l) (n - 1 - 1) P (Exit.then (fun _ W' => KeepsFrom w.heap.size W W' ∧ Kp W W' ∧ I (pre ++ [x]) W') (fun _ _ _ => False)) a' W)
   (hdone : ∀ (D : Nat) (xs : List α) (W : World), w.heap.size ≤ D → S xs → I xs W → W.heap[D]? = some (.deferred (some [])) → Q .normal { a with defers := { target := .collected D, args := #[] } :: a.defers } W) :
   (Code.rangeFunc g ps assign body).wpIn F n P Q a w := by
 refine wpIn_rangeFunc fun fn hfn => ?_
 rw [hro]
 have hrec : ∃ rec : LoopState → Option Code → Loop, rec = fun st pe => { state := st, pending := pe, fn, tmps := a.tmps, params := ps, assign, body, defers := w.heap.size } := ⟨_, rfl⟩
 obtain ⟨rec, hrec⟩ := hrec
 have hwd : Below w.heap.size w ((w.alloc (.deferred (some []))).alloc (.loop (rec .ready none))) := ((Below.refl _ w).alloc (Nat.le_refl _) _).alloc (by simp) _
 have hL : ((w.alloc (.deferred (some []))).alloc (.loop (rec .ready none))).heap[w.heap.size + 1]? = some (.loop (rec .ready none)) := by
   have := World.alloc_heap_new (w.alloc (.deferred (some []))) (.loop (rec .ready none)); rwa [World.size_alloc] at this
 have hD : ((w.alloc (.deferred (some []))).alloc (.loop (rec .ready none))).heap[w.heap.size]? = some (.deferred (some [])) :=
   (Below.heap_alloc _ _ _ (by simp)).trans (World.alloc_heap_new w _)
 have hent := run_enterLoop_outer (P := P) (w := w) fn a.tmps ps assign body
 rw [show ({ state := .ready, pending := none, fn, tmps := a.tmps, params := ps, assign, body, defers := w.heap.size } : Loop) = rec .ready none by rw [hrec]] at hent
 generalize (w.alloc (.deferred (some []))).alloc (.loop (rec .ready none)) = W1 at hwd hL hD hent
 refine ⟨w.heap.size + 1, [{ target := .collected w.heap.size, args := #[] }], W1, { target := .fn (.func gf) lb, args := #[.func (.yield (w.heap.size + 1)) #[] #[]] }, W1, gf,
   #[.func (.yield (w.heap.size + 1)) #[] #[]] ++ lb, W1, hent, ?_, ?_, ?_, fun _ => h1, ?_⟩
 · simp only [resolve, hg]
   simp [go_sem]
 · intro f' hf'; simp [Target.leads] at hf'; subst hf'; exact hFg
 · simp [invoke, go_sem, eg]
 refine (hseq (w.heap.size + 1) (fun pre W => I pre W ∧ W.heap[w.heap.size + 1]? = some (.loop (rec .ready none)) ∧ W.heap[w.heap.size]? = some (.deferred (some []))) W1 (hb0.trans (hwd.mono hb0.size))
   (fun xs A B h hB => ⟨hIb xs A B h.1 hB, (hB.block _ (Array.getElem?_eq_some_iff.1 h.2.1).1).trans h.2.1, (hB.block _ (Array.getElem?_eq_some_iff.1 h.2.2).1).trans h.2.2⟩) ?_ ⟨hIb _ _ _ h0 hwd, hL, hD⟩).mono ?_
 · rintro pre x W ⟨hi, hl, hk⟩ hlen hT
   have hy := run_yield (P := P) (args := encs x) hl (by rw [hrec]; exact hps x)
   rw [hrec] at hy
   refine ⟨fn, _, assign, body, hy, roundIn_of_wpIn hfn (hassign _ pre x W _ hi hT fun a' Wa hkf hkp hia hTa hax => ?_)⟩
   have hla := hkf.same _ _ (Nat.le_succ _) hl rfl
   have hka := hkf.same _ _ (Nat.le_refl _) hk rfl
   have hlt : w.heap.size + 1 < Wa.heap.size := (Array.getElem?_eq_some_iff.1 hla).1
   refine ⟨_, run_beginRound hla (by rw [hrec]), ?_⟩
   have hl2 : (Wa.putObj (w.heap.size + 1) (.loop { rec .ready none with state := .busy })).heap[w.heap.size + 1]? = some (.loop { rec .ready none with state := .busy }) := World.putObj_heap_same hlt
   have hk2 : (Wa.putObj (w.heap.size + 1) (.loop { rec .ready none with state := .busy })).heap[w.heap.size]? = some (.deferred (some [])) := (World.putObj_heap_other (by omega)).trans hka
   refine wpIn_mono (hbody _ pre x a' _ (hIl _ _ _ _ _ (Nat.le_succ _) hla rfl rfl hia) (hTl _ _ _ _ _ (Nat.le_succ _) hla rfl rfl hTa) (hAl _ _ _ _ _ _ (Nat.le_succ _) hla rfl rfl hax) hlen) ?_
   rintro e a3 W3 hp
   cases e with
   | normal =>
     obtain ⟨hk3, hkp3, hi3⟩ := hp
     have hl3 := hk3.same _ _ (Nat.le_succ _) hl2 rfl
     have hd3 := hk3.same _ _ (Nat.le_refl _) hk2 rfl
     have hend := run_endRound (P := P) none hl3
     have e : ({ ({ rec .ready none with state := .busy } : Loop) with state := if (none : Option Code).isNone then .ready else .done, pending := none } : Loop) = rec .ready none := by rw [hrec]; rfl
     rw [e] at hend
     have hlt3 : w.heap.size + 1 < W3.heap.size := (Array.getElem?_eq_some_iff.1 hl3).1
     exact ⟨_, _, hend, rfl, ⟨hIl _ _ _ _ _ (Nat.le_succ _) hl3 rfl rfl hi3, World.putObj_heap_same hlt3, (World.putObj_heap_other (by omega)).trans hd3⟩,
       hKt hkp (hKt (hKl Wa Wa _ _ _ (Nat.le_succ _) hla rfl rfl (hKr Wa)) (hKt hkp3 (hKl W3 W3 _ _ _ (Nat.le_succ _) hl3 rfl rfl (hKr W3))))⟩
   | ret => exact hp.elim
   | exit id => exact hp.elim
   | goto t => exact hp.elim
   | panic ch => exact hp.elim
   | outgrown => exact hp.elim
 · rintro e W2 ⟨⟨v, rfl⟩, xs, hS, hi, hl, hk⟩
   exact ⟨none, _, by have := run_endLoop (P := P) hl (by rw [hrec]; simp); rw [hrec] at this; exact this, hdone _ xs _ (Nat.le_refl _) hS (hIl _ _ _ _ _ (Nat.le_succ _) hl rfl rfl hi) ((World.putObj_heap_other (by omega)).trans hk)⟩
end Go.Proofs.Lg

namespace Go.Proofs.Lg
open Go Go.RowKit Go.Shelf Go.Maps
attribute [local go_sem] Oper.semAt_some
def regCells : Value → List Value
 | .agg a => a.toList
 | _ => []
theorem KeepsK.putObj {A : World} {l : Nat} {o o' : Obj} (h : A.heap[l]? = some o) (h1 : o.isCells = false) (h2 : o.isWalk = false) : KeepsK A (A.putObj l o') :=
 KeepsK.of_grown (grownBy_putObj' A l o') (fun r o1 e hr hp => by
   cases e
   rw [h] at hr
   cases hr
   cases o <;> simp_all [PlainObj, Obj.isCells, Obj.isWalk])
theorem steady_keepsR {n₀ B B' : Nat} (hn : n₀ ≤ B') (hB : B < B') (A : World) : Steady B' (KeepsR n₀ B A) := fun _ _ _ _ hl h h1 h2 hk =>
 hk.trans (KeepsR.putObj (Nat.le_trans hn hl) (by omega) h h1 h2)
theorem steady_regAt {B : Nat} (v : Value) (r : Reg) : Steady B (fun W => RegAt W v r) := fun _ _ _ _ _ h h1 h2 hk => hk.keepsK (KeepsK.putObj h h1 h2)
theorem steady_regOk {B : Nat} (v : Value) (r : Reg) : Steady B (fun W => RegOk W v r) := fun W l o o' hl h h1 h2 hk => ⟨steady_regAt (B := B) v r W l o o' hl h h1 h2 hk.1, hk.2⟩
theorem RegOk.below {W W' : World} {v : Value} {r : Reg} (h : RegOk W v r) (hb : Below W.heap.size W W') : RegOk W' v r := ⟨h.1.below hb, h.2⟩
def RegsAt (w0 : World) (B : Nat) (xs : List (Value × Reg)) (W : World) : Prop :=
 (∃ v, Boxed W B 32 v ∧ W.ownsRow w0.heap.size 45 3 v xs.length (xs.flatMap fun x => regCells x.1)) ∧ (∀ x ∈ xs, RegAt W x.1 x.2) ∧ Below w0.heap.size w0 W
theorem steady_regsAt (w0 : World) (B B' : Nat) (hB : w0.heap.size ≤ B') (xs : List (Value × Reg)) : Steady B' (RegsAt w0 B xs) := fun W l o o' hl h h1 h2 hk => by
 obtain ⟨⟨v, hv, hrow⟩, hr, hb⟩ := hk
 have hlt := (Array.getElem?_eq_some_iff.1 h).1
 refine ⟨⟨v, ?_, ownsRow_putObj hrow o' h h1⟩, fun x hx => steady_regAt (B := B') _ _ W l o o' hl h h1 h2 (hr x hx), hb.grown (grownBy_putObj' W l o') hb.size (fun k e => by cases e; omega)⟩
 refine hv.kept (grownBy_putObj' W l o') (fun e => ?_)
 obtain rfl := Option.some.inj e
 rw [show W.heap[B]? = _ from hv] at h
 cases h
 simp [Obj.isCells] at h1
theorem regsAt_below {w0 : World} {B : Nat} {xs : List (Value × Reg)} {A C : World} (h : RegsAt w0 B xs A) (hb : Below A.heap.size A C) : RegsAt w0 B xs C := by
 obtain ⟨⟨v, hv, hrow⟩, hr, hb0⟩ := h
 refine ⟨⟨v, (hb.block _ hv.lt).trans hv, ?_⟩, fun x hx => (hr x hx).below hb, hb0.trans (hb.mono hb0.size)⟩
 refine ⟨hrow.1, ?_⟩
 rcases hrow.2 with h2 | ⟨g, cap, cur, hv', hbg, hg, h3⟩
 · exact .inl h2
 · exact .inr ⟨g, cap, cur, hv', hbg, (hb.block _ (Array.getElem?_eq_some_iff.1 hg).1).trans hg, h3⟩
theorem info_Region : (Tryz.prog.info? 45).map (fun i => (i.zero, i.size, i.bytes)) = some (some (.agg #[.bool false, .slice none 0 0, .slice none 0 0]), 3, 56) := by kernel_rfl
set_option maxRecDepth 100000 in
set_option maxHeartbeats 4000000 in
theorem appendSeqRegion_in (F : Fence) (n : Nat) (gf : Nat) (lb : Array Value) (h3 : F.fn 81) (hgf : F.fn gf) (hro : F.round = none) (hn : 3 ≤ n) (spec : List Reg) (N : Nat) (hN : N ≤ 2000010) (w : World)
   (eg : ∀ args w, (callFunc gf args).run Tryz.prog w = .ok (.enter gf args) w)
   (hseq : SeqTold F (n - 1) Tryz.prog gf lb (fun x : Value × Reg => #[x.1]) (fun x W => RegOk W x.1 x.2) (KeepsR w.heap.size w.heap.size) (fun xs => xs.map (·.2) = spec) N (w.alloc (.cells #[.slice none 0 0] 32))) :
   CallsIn F n Tryz.prog 81 #[.slice none 0 0, .func (.func gf) #[] lb] w fun e W' => ∃ v, e = .returned v ∧ ∃ xs : List (Value × Reg), xs.map (·.2) = spec ∧ W'.ownsRow w.heap.size 45 3 v xs.length (xs.flatMap fun x => regCells x.1) ∧ (∀ x ∈ xs, RegAt W' x.1 x.2) ∧ Below w.heap.size w W' := by
 have h1 : 1 ≤ n := by omega
 obtain ⟨i0, hi, hz0, hz1, hz2⟩ := info_parts info_Region
 refine callsIn_of_wp_marks Tryz.func81 rfl h3 ?_ hro
 simp only [Tryz.ntmps81, List.size_toArray, List.length_cons, List.length_nil, Nat.reduceAdd, Nat.reduceSub, Array.replicate_succ, Array.replicate_zero, List.push_toArray, List.append_toArray, List.nil_append, List.cons_append]
 gi_wp2
 have bO := Boxed.new w 32 (.slice none 0 0)
 have hB0 : Below w.heap.size w (w.alloc (.cells #[.slice none 0 0] 32)) := (Below.refl _ w).alloc (Nat.le_refl _) _
 refine wpIn_rangeFunc_told hro h1 (gf := gf) (lb := lb) rfl hgf eg hseq (Below.refl _ _) (fun _ => rfl)
   (fun xs W => RegsAt w w.heap.size xs W) (fun xs A B h hb => regsAt_below h hb) (fun xs => steady_regsAt w _ _ (by simp) xs) (fun x => steady_regOk _ _) KeepsR.trans (fun A => steady_keepsR (by simp) (by simp) A) (KeepsR.refl _ _)
   ⟨⟨_, bO, World.ownsRow_nil _ _ _ _⟩, (fun x hx => by cases hx), hB0⟩
   (fun x a' W => ∃ Bx, W.heap[Bx]? = some (.cells (regCells x.1).toArray 45 (0, 0)) ∧ a' = { tmps := #[.slice none 0 0, .func (.func gf) #[] lb, .pointer (some ⟨w.heap.size, 0, none⟩), undef, .slice none 0 0, .pointer (some ⟨Bx, 0, none⟩), .func (.func gf) #[] lb, x.1, undef, undef, undef, undef, undef], defers := [] })
   (fun x a' A l o o' hl h h1 h2 ⟨Bx, hb, ha⟩ => ⟨Bx, by rw [World.putObj_heap_other (by rintro rfl; rw [hb] at h; cases h; simp [Obj.isCells] at h1)]; exact hb, ha⟩) ?assign ?body ?done
 case assign =>
   rintro l pre ⟨x, r⟩ W K hI hT hK
   obtain ⟨vl, vs, us, hx, k1, k2, k3⟩ := hT.1
   dsimp only at hx
   obtain ⟨a1, c1, hv1⟩ := ownsRow_form k1
   obtain ⟨a2, c2, hv2⟩ := ownsRow_form k2
   dsimp only at hv1
   clear k1 k2 k3
   obtain ⟨cb, hcb⟩ : ∃ cb, r.conflict = cb := ⟨_, rfl⟩
   obtain ⟨nl, hnl⟩ : ∃ nl, r.lines.length = nl := ⟨_, rfl⟩
   rw [hnl] at hv1
   rw [hv1, hv2, hcb] at hx
   have HI := Lib.hid hI
   have HT := Lib.hid hT
   clear hI hT hv1 hv2 hcb hnl
   subst hx
   gi_wp2
   have hba : Below W.heap.size W (W.alloc (.cells #[.bool cb, .slice a1 nl c1, .slice a2 us.length c2] 45)) := (Below.refl _ _).alloc (Nat.le_refl _) _
   exact hK _ _ ((KeepsOthers.alloc _ _).from _) (KeepsR.of_below HI.out.2.2.size (HI.out.1.elim fun _ h => h.1.lt) hba) (regsAt_below HI.out hba) (HT.out.below hba) ⟨W.heap.size, World.alloc_heap_new W _, rfl⟩
 case body =>
   rintro l pre ⟨x, r⟩ a' W hI hT ⟨Bx, hbx, rfl⟩ hlt
   obtain ⟨vl, vs, us, hx, k1, k2, k3⟩ := hT.1
   dsimp only at hx
   obtain ⟨a1, c1, hv1⟩ := ownsRow_form k1
   obtain ⟨a2, c2, hv2⟩ := ownsRow_form k2
   dsimp only at hv1
   clear k1 k2 k3
   obtain ⟨cb, hcb⟩ : ∃ cb, r.conflict = cb := ⟨_, rfl⟩
   obtain ⟨nl, hnl⟩ : ∃ nl, r.lines.length = nl := ⟨_, rfl⟩
   rw [hnl] at hv1
   rw [hv1, hv2, hcb] at hx
   clear hv1 hv2 hcb hnl
   subst hx
   have q0 : W.cell? ⟨Bx, 0, none⟩ = some (.bool cb) := by rw [cell_of_heap hbx]; rfl
   have q1 : W.cell? ⟨Bx, 1, none⟩ = some (.slice a1 nl c1) := by rw [cell_of_heap hbx]; rfl
   have q2 : W.cell? ⟨Bx, 2, none⟩ = some (.slice a2 us.length c2) := by rw [cell_of_heap hbx]; rfl
   have hbxl := cell_lt q0
   obtain ⟨⟨v, hv, hrow⟩, hr, hB⟩ := hI
   have hc := hv.cell
   have hlv := hv.lt
   have hnews : ∀ j u, [Value.bool cb, .slice a1 nl c1, .slice a2 us.length c2][j]? = some u → (W.alloc (.cells #[.bool cb, .slice a1 nl c1, .slice a2 us.length c2] 45)).cell? (Addr.add ⟨W.heap.size, 0, none⟩ j) = some u := by
     intro j u hu
     rw [Addr.add_mid, Nat.zero_add]
     match j, hu with
     | 0, hu => simp at hu; subst hu; simp [go_sem]
     | 1, hu => simp at hu; subst hu; simp [go_sem]
     | 2, hu => simp at hu; subst hu; simp [go_sem]
     | j + 3, hu => simp at hu
   have HT := Lib.hid hT
   have HR := Lib.hid hr
   have HNW := Lib.hid hnews
   have hlt' : pre.length < N := hlt
   clear hT hr hbx hnews
   gi_wp2_with (gi_at_builtin; refine wpListIn_append_own_at _ rfl _ _ 32 rfl w.heap.size 45 i0 (.agg #[.bool false, .slice none 0 0, .slice none 0 0]) 3 56 Tryz.underlying32 hi hz0 hz1 hz2 rfl (by decide) _ _ _ rfl (hrow.alloc _) ⟨W.heap.size, 0, none⟩ 1 1 [.bool cb, .slice a1 nl c1, .slice a2 us.length c2] rfl rfl HNW.out (by simp [Value.oneCell']) (by unfold maxLen; omega) (by omega) (by have := hB.size; simp; omega) ?_; intro v' w1 hown' hgrow _ hloc; obtain ⟨g', cap', rfl⟩ := ownsRow_succ hown'; obtain ⟨hv1, hv2, hr2, hk2, hb2⟩ := hv.appended (by decide) hrow hB.size (Nat.le_refl _) hown' hgrow; have hc1 := hv1.cell; have hf1 := hv1.frozen)
   have hgrow2 : (W.alloc (.cells #[.bool cb, .slice a1 nl c1, .slice a2 us.length c2] 45)).grownBy w1 v.ownBlock := hgrow
   have hkk : KeepsK W (w1.setCell ⟨w.heap.size, 0, none⟩ (.slice (some ⟨g', 0, none⟩) (pre.length + 1) cap')) := by
     refine (KeepsK.of_below ((Below.refl _ _).alloc (Nat.le_refl _) (.cells #[.bool cb, .slice a1 nl c1, .slice a2 us.length c2] 45))).trans ((KeepsK.of_grown hgrow2 fun r o e hr hp => ?_).trans (KeepsK.of_grown (grownBy_setCell' w1 w.heap.size _) fun r o e hr hp => ?_))
     · rcases (hrow.alloc (.cells #[.bool cb, .slice a1 nl c1, .slice a2 us.length c2] 45)).2 with ⟨rfl, _⟩ | ⟨g, cap, cur, rfl, _, hgb, _⟩
       · simp [Value.ownBlock] at e
       · obtain rfl : g = r := by simpa [Value.ownBlock] using e
         rw [hgb] at hr
         cases hr
         exact absurd rfl hp.1
     · obtain rfl := Option.some.inj e
       rw [show w1.heap[w.heap.size]? = _ from hv1] at hr
       cases hr
       exact absurd rfl hp.2
   have hkr : KeepsR w.heap.size w.heap.size W (w1.setCell ⟨w.heap.size, 0, none⟩ (.slice (some ⟨g', 0, none⟩) (pre.length + 1) cap')) :=
     KeepsR.appended hv hB.size (hv.not_row (by decide) hrow) (grownBy_trans' (World.grownBy_alloc _ _ _) hgrow2) (hloc.imp id fun h g e => by rw [h] at e; have := Option.some.inj e; simp at this; omega)
   refine ⟨hk2.from _, hkr, ⟨_, hv2, by simpa [regCells] using hr2⟩, fun y hy => ?_, hB.trans hb2⟩
   rcases List.mem_append.1 hy with h | h
   · exact (HR.out y h).keepsK hkk
   · obtain rfl := List.mem_singleton.1 h
     exact HT.out.1.keepsK hkk
 case done =>
   rintro D ys W hD hS ⟨⟨v, hv, hrow⟩, hr, hB⟩ hK
   have hc := hv.cell
   gi_wp2
   refine ⟨by simp, .inl ⟨_, _, rfl, run_takeDeferred hK, ?_⟩⟩
   exact ⟨_, results_tmp rfl _ _ _, v, rfl, ys, hS, ownsRow_putObj hrow _ hK rfl, fun x hx => (hr x hx).keepsK (KeepsK.putObj hK rfl rfl), hB.trans (belowK_b (w := w) (Nat.le_refl _) W D _ _ (by simp at hD; omega) hK rfl rfl)⟩
end Go.Proofs.Lg
