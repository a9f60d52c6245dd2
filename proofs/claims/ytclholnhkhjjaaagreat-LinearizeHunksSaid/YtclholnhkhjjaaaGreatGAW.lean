/-
  Part GAW of this claim's proof. Joined by merge.py from the texts of wip/tpl.
-/
import Derived.Test.YtclholnhkhjjaaaGreatGAV
set_option linter.unusedVariables false
set_option linter.unusedSimpArgs false
set_option linter.unnecessarySimpa false
namespace Go.Proofs.Lh
open Go Go.Bb Go.RowKit Go.Proofs.Lg
theorem hkEnd_fn (h : Hk) (hp : h.pos + h.old.length ≤ 1000000) : AFn Tryz.prog 65 [.agg (dHk h)] (dNat (h.pos + h.old.length)) := by
 have g := addN (x := h.pos) (y := h.old.length) (by omega) (by omega)
 refine AFn_of (F := k_hkEnd) (okb_hkEnd.trans (by kernel_rfl)) (by simp [k_hkEnd]) ?_
 simp only [k_hkEnd, dHk, dStrs, dNat, g, deepD, AV.toL, ↓Both_true, ↓Both_false, wx, reduceCtorEq, reduceIte, Nat.reduceAdd, Nat.reduceEqDiff, Nat.reduceLT, Nat.reduceLeDiff, wj, ← List.map_take, ← List.map_drop]
def sameId (x y : Vtx) : Bool := decide (x.id = y.id) && decide (x.n = y.n)
theorem key_d {v : Vtx} (h : v.ok) : AV.key true (.d (.agg (idR v))) = some (idVs v) := by
 unfold idR
 rw [vrow_id h]
 simp only [AV.key, AV.row, Option.bind_some, List.map_map, if_true]
 have h2 : List.map (AV.d ∘ Go.Ab.D.sc) (idVs v) = (idVs v).map fun u => AV.d (.sc u) := rfl
 rw [h2, scsA_sc]
theorem key_b {v : Vtx} (h : v.ok) : AV.key true (.agg ((idR v).map AV.d)) = some (idVs v) := by
 have := key_box h
 rw [← List.map_take] at this
 exact this
theorem IndexId_fn (vs : List Vtx) (hok : ∀ v ∈ vs, v.ok) {x : Vtx} (hx : x.ok) (hn : vs.length ≤ 1000000) : AFn Tryz.prog 29 [.sl 33 (vs.map idR), .agg (idR x)] (.sc (.int .i64 (idxI (sameId x) vs))) := by
 have x1 := idR_len hx
 have x2 : (idR x).take 33 = idR x := List.take_of_length_le (by omega)
 have x3 := key_b hx
 have h33 : 33 ≤ 33 := Nat.le_refl _
 refine AFn_of (F := k_IndexId) (okb_IndexId.trans (by kernel_rfl)) (by simp [k_IndexId]) ?_
 simp only [k_IndexId, ↓Both_true, ↓Both_false, wx, reduceCtorEq, reduceIte, Nat.reduceAdd, Nat.reduceEqDiff, Nat.reduceLT, Nat.reduceLeDiff, wj, ← List.map_take, ← List.map_drop]
 refine LoopK.count (fun k => [(8, .d (.sc (.int .i64 k))), (7, .d (.sc (.int .i64 vs.length))), (6, .d (.sl 33 (vs.map idR))), (0, .d (.sl 33 (vs.map idR))), (3, .ptr 0 0)]) (fun _ => [.cells ((idR x).map AV.d)]) (fun k => (vs.take k).any (sameId x) = false) vs.length (by simp [SubB, Go.Bb.look, intD]) rfl (by simp) fun k hk hi => ?_
 by_cases hlt : k < vs.length
 · have h1 : decide ((k : Int) < (vs.length : Int)) = true := by simpa using hlt
   have h2 : vs[k]? = some vs[k] := List.getElem?_eq_getElem hlt
   have h3 : IntKind.i64.wrap ((k : Int) + 1) = ((k + 1 : Nat) : Int) := wrapN (by omega) (by omega)
   have h8 : sameId x vs[k] = false → (vs.take (k + 1)).any (sameId x) = false := fun h => any_take_step' hi hlt h
   have h9 : sameId x vs[k] = true → idxI (sameId x) vs = k := fun h => idxI_hit hlt hi h
   have hy := hok vs[k] (List.getElem_mem _)
   generalize vs[k] = y at h2 h8 h9 hy
   have y1 := idR_len hy
   have y2 : (idR y).take 33 = idR y := List.take_of_length_le (by omega)
   have y3 := key_d hy
   have y4 := eqKs_id hx hy
   unfold ks33 at y4
   change _ = some (sameId x y) at y4
   cases hc : sameId x y with
   | true =>
     rw [hc] at y4
     simp only [h1, h2, x1, x2, x3, y1, y2, y3, y4, h33, h9 hc, deepD, AV.toL, ↓Both_true, ↓Both_false, wx, reduceCtorEq, reduceIte, Nat.reduceAdd, Nat.reduceEqDiff, Nat.reduceLT, Nat.reduceLeDiff, wj, ← List.map_take, ← List.map_drop]
     exact (ordF_coarse (by simp only [List.map_cons, List.map_nil, coarse_rd, coarse_wr]; rfl))
   | false =>
     rw [hc] at y4
     simp only [h1, h2, h3, x1, x2, x3, y1, y2, y3, y4, h33, h8 hc, hlt, ↓Both_true, ↓Both_false, wx, reduceCtorEq, reduceIte, Nat.reduceAdd, Nat.reduceEqDiff, Nat.reduceLT, Nat.reduceLeDiff, wj, ← List.map_take, ← List.map_drop]
     exact (ordF_coarse (by simp only [List.map_cons, List.map_nil, coarse_rd, coarse_wr]; rfl))
 · have h1 : decide ((k : Int) < (vs.length : Int)) = false := by simpa using hlt
   have h2 : vs.take k = vs := List.take_of_length_le (by omega)
   rw [h2] at hi
   simp only [h1, idxI_none hi, deepD, AV.toL, ↓Both_true, ↓Both_false, wx, reduceCtorEq, reduceIte, Nat.reduceAdd, Nat.reduceEqDiff, Nat.reduceLT, Nat.reduceLeDiff, wj, ← List.map_take, ← List.map_drop]
theorem HIn_pos {A : List ByteArray} : ∀ {l : List Hk} {e : Nat} {g : Bool}, HIn A e g l → ∀ h ∈ l, h.pos + h.old.length ≤ A.length
 | [], _, _, _, _, hh => by cases hh
 | x :: l, e, g, ⟨_, _, h3, _, _, h6⟩, h, hh => by
   rcases List.mem_cons.1 hh with rfl | hh
   · exact h3
   · exact HIn_pos h6 h hh
set_option maxRecDepth 10000 in
set_option maxHeartbeats 2000000 in
theorem hkCheck_fn (A : List ByteArray) (l : List Hk) (hin : HIn A 0 true l) (hA : A.length ≤ 1000000) (hl : l.length ≤ 1000000) (hf : ∀ h ∈ l, h.new.length ≤ 1000000) : AFn Tryz.prog 64 [dHks l] (.sc (.int .i64 0)) := by
 have hpos := HIn_pos hin
 refine AFn_of (F := k_hkCheck) (okb_hkCheck.trans (by kernel_rfl)) (by simp [k_hkCheck]) ?_
 simp only [k_hkCheck, dHks, ↓Both_true, ↓Both_false, wx, reduceCtorEq, reduceIte, Nat.reduceAdd, Nat.reduceEqDiff, Nat.reduceLT, Nat.reduceLeDiff, wj, ← List.map_take, ← List.map_drop]
 refine LoopK.at (fun b : Nat × List AObj => [(7, .d (.sc (.int .i64 b.1))), (6, .d (.sc (.int .i64 l.length))), (5, .d (.sl 3 (l.map dHk))), (0, .d (.sl 3 (l.map dHk)))]) (fun b => b.2)
   (fun m b => m + b.1 = l.length ∧ ∃ e g, HIn A e g (l.drop b.1) ∧ ∀ j, b.1 = j + 1 → ∃ h', l[j]? = some h' ∧ e = h'.pos + h'.old.length ∧ g = false) l.length (0, []) (by simp [SubB, Go.Bb.look, intD, dHks]) rfl ⟨rfl, 0, true, hin, fun j hj => by cases hj⟩ ?_
 rintro mm ⟨i, J⟩ ⟨hm, e, g, hh, hprev⟩
 dsimp only at hm hh hprev ⊢
 by_cases hlt : i < l.length
 · have f1 : decide ((i : Int) < (l.length : Int)) = true := by simpa using hlt
   have f2 : l[i]? = some l[i] := List.getElem?_eq_getElem hlt
   have f3 : IntKind.i64.wrap ((i : Int) + 1) = ((i + 1 : Nat) : Int) := wrapN (by omega) (by omega)
   rw [List.drop_eq_getElem_cons hlt] at hh
   have hb1 := hpos l[i] (List.getElem_mem _)
   have hb2 := hf l[i] (List.getElem_mem _)
   generalize hh0 : l[i] = h at *
   obtain ⟨q1, q2, q3, q4, q5, q6⟩ := hh
   have p1 : decide ((h.pos : Int) < 0) = false := by simp
   have p2 : decide ((h.pos : Int) > 1099511627776) = false := by simp; omega
   have p3 : IntKind.i64.wrap ((h.old.length : Int) + (h.new.length : Int)) = ((h.old.length + h.new.length : Nat) : Int) := addN (by omega) (by omega)
   have p4 : (((h.old.length + h.new.length : Nat) : Int) == 0) = false := by simp; omega
   have r33 : 3 ≤ 3 := Nat.le_refl _
   have hnext : ∀ j, i + 1 = j + 1 → ∃ h', l[j]? = some h' ∧ h.pos + h.old.length = h'.pos + h'.old.length ∧ false = false := by
     intro j hj
     obtain rfl : i = j := by omega
     exact ⟨h, f2, rfl, rfl⟩
   cases i with
   | zero =>
     have p5 : decide (((0 : Nat) : Int) > 0) = false := by simp
     simp only [f1, f2, f3, p1, p2, p3, p4, p5, r33, dHk, dStrs, ↓Both_true, ↓Both_false, wx, reduceCtorEq, reduceIte, Nat.reduceAdd, Nat.reduceEqDiff, Nat.reduceLT, Nat.reduceLeDiff, wj, ← List.map_take, ← List.map_drop]
     exact ⟨(ordF_coarse (by simp only [List.map_cons, List.map_nil, coarse_rd, coarse_wr]; rfl)), mm - 1, (0 + 1, _), by omega, rfl, rfl, by dsimp only; omega, _, _, q6, hnext⟩
   | succ j =>
     obtain ⟨h', e1, e2, e3⟩ := hprev j rfl
     have p5 : decide (((j + 1 : Nat) : Int) > 0) = true := by simp
     have p6 : IntKind.i64.wrap (((j + 1 : Nat) : Int) - 1) = (j : Int) := wrapN (by omega) (by omega)
     have hb3 := hpos h' (List.mem_of_getElem? e1)
     have p8 : decide ((h.pos : Int) ≤ ((h'.pos + h'.old.length : Nat) : Int)) = false := by
       rcases q2 with h0 | h0
       · rw [e3] at h0; cases h0
       · simp; omega
     simp only [f1, f2, f3, e1, p1, p2, p3, p4, p5, p6, r33, dHk, dStrs, ↓Both_true, ↓Both_false, wx, reduceCtorEq, reduceIte, Nat.reduceAdd, Nat.reduceEqDiff, Nat.reduceLT, Nat.reduceLeDiff, wj, ← List.map_take, ← List.map_drop]
     refine CallM.data (hkEnd_fn h' (by omega)) rfl ?_
     simp only [f1, f2, f3, e1, p1, p2, p3, p4, p5, p6, p8, r33, dNat, dHk, dStrs, ↓Both_true, ↓Both_false, wx, reduceCtorEq, reduceIte, Nat.reduceAdd, Nat.reduceEqDiff, Nat.reduceLT, Nat.reduceLeDiff, wj, ← List.map_take, ← List.map_drop]
     exact ⟨(ordF_coarse (by simp only [List.map_cons, List.map_nil, coarse_rd, coarse_wr]; rfl)), mm - 1, (j + 1 + 1, _), by omega, rfl, rfl, by dsimp only; omega, _, _, q6, hnext⟩
 · have f1 : decide ((i : Int) < (l.length : Int)) = false := by simpa using hlt
   simp only [f1, deepD, AV.toL, ↓Both_true, ↓Both_false, wx, reduceCtorEq, reduceIte, Nat.reduceAdd, Nat.reduceEqDiff, Nat.reduceLT, Nat.reduceLeDiff, wj, ← List.map_take, ← List.map_drop]
end Go.Proofs.Lh

namespace Go.Proofs.Lh
open Go Go.Bb Go.RowKit Go.Proofs.Lg
def fineB (B x : Nat) : Nat := if x < 4 then x else if x / 2 = B + 2 then x % 2 + 4 else x % 2 + 6
theorem fine_s (B : Nat) {x : Nat} (h : x < 4) : fineB B x = x := if_pos h
theorem fine_0 (B : Nat) : fineB B 0 = 0 := rfl
theorem fine_r (B : Nat) : fineB B (4 + 2 * B) = 4 := by unfold fineB; rw [if_neg (by omega), if_pos (by omega)]; omega
theorem fine_w (B : Nat) : fineB B (5 + 2 * B) = 5 := by unfold fineB; rw [if_neg (by omega), if_pos (by omega)]; omega
theorem fine_o {B b : Nat} (h : b ≠ B) : fineB B (5 + 2 * b) = 7 := by unfold fineB; rw [if_neg (by omega), if_neg (by omega)]; omega
theorem fine_big (B : Nat) {x : Nat} (h : 4 ≤ x) : 4 ≤ fineB B x ∧ fineB B x % 2 = x % 2 ∧ fineB B x / 2 = if x / 2 = B + 2 then 2 else 3 := by
 unfold fineB
 rw [if_neg (by omega)]
 split <;> omega
theorem conf_fine {B a b : Nat} (h : conf a b = true) : conf (fineB B a) (fineB B b) = true := by
 have small : ∀ x, x < 4 → x = 0 ∨ x = 1 ∨ x = 2 ∨ x = 3 := fun x h => by omega
 by_cases ha : a < 4
 · by_cases hb : b < 4
   · rw [fine_s B ha, fine_s B hb]; exact h
   · obtain ⟨h1, h2, _⟩ := fine_big B (x := b) (by omega)
     rw [fine_s B ha]
     generalize fineB B b = z at *
     rcases small a ha with rfl | rfl | rfl | rfl <;> simp [conf, isE, isW, isRd] at h ⊢ <;> omega
 · obtain ⟨g1, g2, g3⟩ := fine_big B (x := a) (by omega)
   by_cases hb : b < 4
   · rw [fine_s B hb]
     generalize fineB B a = z at *
     rcases small b hb with rfl | rfl | rfl | rfl <;> simp [conf, isE, isW, isRd] at h ⊢ <;> omega
   · obtain ⟨h1, h2, h3⟩ := fine_big B (x := b) (by omega)
     generalize fineB B a = y at *
     generalize fineB B b = z at *
     have hc : (a % 2 = 1 ∧ b % 2 = 1) ∨ (a / 2 = b / 2 ∧ a % 2 ≠ b % 2) := by
       simp [conf, isE, isW, isRd] at h
       omega
     rcases hc with ⟨c1, c2⟩ | ⟨c1, c2⟩
     · have e1 : isE y = true := by simp [isE]; omega
       have e2 : isE z = true := by simp [isE]; omega
       exact conf_EE e1 e2
     · have e1 : y / 2 = z / 2 := by rw [g3, h3, c1]
       have e2 : y % 2 ≠ z % 2 := by omega
       simp [conf, g1, h1, e1, e2]
theorem ordF_fine (B : Nat) {bf fl : List Nat} (h : ordF bf (fl.map (fineB B)) = true) : ordF bf fl = true := by
 unfold ordF at h ⊢
 rw [List.length_map] at h
 have e : ∀ i, (fl.map (fineB B)).getD i 0 = fineB B (fl.getD i 0) := fun i => by
   simp only [List.getD_eq_getElem?_getD, List.getElem?_map]
   cases fl[i]? <;> rfl
 simp only [List.all_eq_true, List.mem_range, Bool.or_eq_true, beq_iff_eq, Bool.not_eq_true', e] at h ⊢
 intro j hj
 rcases h j hj with h1 | h1
 · left
   unfold fineB at h1
   split at h1
   · exact h1
   · split at h1 <;> omega
 · refine .inr fun i hi => ?_
   rcases h1 i hi with h2 | h2
   · left
     cases hc : conf (fl.getD i 0) (fl.getD j 0) with
     | false => rfl
     | true => have := conf_fine (B := B) hc; rw [h2] at this; cases this
   · exact .inr h2
def GrowR (T sz : Nat) (s : List AObj) (v : AV) (rows : List (List Go.Ab.D)) : Prop :=
 (rows = [] ∧ v = .nil sz) ∨ (rows ≠ [] ∧ ∃ id, v = .tsl id sz rows ∧ s[id]? = some (.row T sz rows.length))
theorem GrowR.nil (T sz : Nat) (s : List AObj) : GrowR T sz s (.nil sz) [] := .inl ⟨rfl, rfl⟩
theorem GrowR.deep {T sz : Nat} {s : List AObj} {v : AV} {rows : List (List Go.Ab.D)} (h : GrowR T sz s v rows) (s2 : List AObj) (n : Nat) : deepD s2 (n + 1) v = some (.sl sz rows) := by
 rcases h with ⟨rfl, rfl⟩ | ⟨_, id, rfl, _⟩ <;> rfl
theorem GrowR.keep {T sz : Nat} {s s' : List AObj} {v : AV} {rows : List (List Go.Ab.D)} (h : GrowR T sz s v rows) (hk : ∀ j n : Nat, s[j]? = some (AObj.row T sz n) → s'[j]? = some (AObj.row T sz n)) : GrowR T sz s' v rows := by
 rcases h with ⟨h1, h2⟩ | ⟨h1, id, h2, h3⟩
 · exact .inl ⟨h1, h2⟩
 · exact .inr ⟨h1, id, h2, hk _ _ h3⟩
theorem app_grow {T sz bytes : Nat} {s : List AObj} {v y : AV} {rows ys : List (List Go.Ab.D)} (h : GrowR T sz s v rows) (hy : slA sz y = some ys) (hr : roomOk (rows.length + ys.length) bytes = true) :
   ∃ v' s', semApp s false T sz bytes y v = some (v', s') ∧ GrowR T sz s' v' (rows ++ ys) ∧ ∀ (j : Nat) (o : AObj), s[j]? = some o → (∀ n : Nat, o ≠ AObj.row T sz n) → s'[j]? = some o := by
 rcases h with ⟨rfl, rfl⟩ | ⟨hne, id, rfl, hid⟩
 · by_cases hys : ys = []
   · subst hys
     exact ⟨.nil sz, s, by simp [semApp, hy], .inl ⟨rfl, rfl⟩, fun j o h _ => h⟩
   · refine ⟨.tsl s.length sz ys, s ++ [.row T sz ys.length], ?_, .inr ⟨by simpa using hys, s.length, by simp, by simp⟩, fun j o h _ => ?_⟩
     · have hr' : roomOk ys.length bytes = true := by simpa using hr
       simp [semApp, hy, hys, hr']
     · rw [List.getElem?_append_left (List.getElem?_eq_some_iff.1 h).1]; exact h
 · have hlt := (List.getElem?_eq_some_iff.1 hid).1
   refine ⟨.tsl id sz (rows ++ ys), s.set id (.row T sz (rows.length + ys.length)), ?_, .inr ⟨by simp [hne], id, rfl, by rw [List.getElem?_set_self hlt]; simp⟩, fun j o h hn => ?_⟩
   · simp [semApp, hy, hid, rowOk, hr]
   · by_cases e : j = id
     · subst e
       rw [hid] at h
       exact absurd (Option.some.inj h).symm (hn _)
     · rw [List.getElem?_set_ne (Ne.symm e)]; exact h
theorem app_mark {T sz : Nat} {s : List AObj} {v : AV} {rows : List (List Go.Ab.D)} (h : GrowR T sz s v rows) {B : Nat} {cs : List AV} (hB : s[B]? = some (.cells cs)) :
   ∃ t o, appT (some v) = t ∧ v.rowId = o ∧ (fineB B (if t = 1 then 1 else if t = 2 then (Option.map (fun x => 5 + 2 * x) o).getD 2 else t) = 3 ∨ fineB B (if t = 1 then 1 else if t = 2 then (Option.map (fun x => 5 + 2 * x) o).getD 2 else t) = 7) := by
 rcases h with ⟨_, rfl⟩ | ⟨_, id, rfl, h3⟩
 · exact ⟨3, none, rfl, rfl, .inl rfl⟩
 · exact ⟨2, some id, rfl, rfl, .inr (fine_o fun e => by subst e; rw [hB] at h3; cases h3)⟩
def vtx (ls : List Vtx) (q : Nat) : Vtx := (ls[q]?).getD ⟨[], 0, ByteArray.empty, false⟩
def idsD (ls : List Vtx) (l : List Nat) : Go.Ab.D := .sl 33 ((l.map (vtx ls)).map idR)
theorem vtx_get {ls : List Vtx} {q : Nat} {x : Vtx} (h : ls[q]? = some x) : vtx ls q = x := by unfold vtx; rw [h]; rfl
set_option maxRecDepth 10000 in
set_option maxHeartbeats 2000000 in
theorem lhTexts_fn {g : Gr} (hg : GrOk g) {l : List Nat} (hl : ∀ j ∈ l, j < g.lines.length) (hll : l.length ≤ 1000000) : AFn Tryz.prog 26 [dGraph g, dNats l] (.tup [dStrs (txtL g.lines l), idsD g.lines l, .sc (.bool true)]) := by
 refine AFn_of (F := k_lhTexts) (okb_lhTexts.trans (by kernel_rfl)) (by simp [k_lhTexts]) ?_
 simp only [k_lhTexts, dGraph, dNats, dLines, ↓Both_true, ↓Both_false, wx, reduceCtorEq, reduceIte, Nat.reduceAdd, Nat.reduceEqDiff, Nat.reduceLT, Nat.reduceLeDiff, wj, ← List.map_take, ← List.map_drop]
 refine LoopK.at (fun b : Nat × AV × AV × List AObj => [(13, .d (.sc (.int .i64 b.1))), (12, .d (.sc (.int .i64 l.length))), (11, .d (.sl 1 (l.map nrow))), (2, .ptr 0 0), (7, b.2.1), (8, b.2.2.1)]) (fun b => b.2.2.2)
   (fun m b => m + b.1 = l.length ∧ b.2.2.2[0]? = some (.cells [.d (.sl 35 (g.lines.map vrow)), .d (dEdges g.edges)]) ∧ GrowR 9 1 b.2.2.2 b.2.1 ((txtL g.lines (l.take b.1)).map strow) ∧ GrowR 38 33 b.2.2.2 b.2.2.1 (((l.take b.1).map (vtx g.lines)).map idR)) l.length (0, .nil 1, .nil 33, _) (by simp [SubB, Go.Bb.look, intD]) rfl ⟨rfl, rfl, GrowR.nil 9 1 _, GrowR.nil 38 33 _⟩ ?_
 rintro mm ⟨k, v, u, s⟩ ⟨hm, hB, hv, hu⟩
 dsimp only at hm hB hv hu ⊢
 by_cases hlt : k < l.length
 · have h1 : decide ((k : Int) < (l.length : Int)) = true := by simpa using hlt
   have h2 : l[k]? = some l[k] := List.getElem?_eq_getElem hlt
   have h3 : IntKind.i64.wrap ((k : Int) + 1) = ((k + 1 : Nat) : Int) := wrapN (by omega) (by omega)
   have hj := hl l[k] (List.getElem_mem _)
   have h4 := txtL_take (ls := g.lines) hlt
   have h4' : (l.take (k + 1)).map (vtx g.lines) = (l.take k).map (vtx g.lines) ++ [vtx g.lines l[k]] := by rw [List.take_succ_eq_append_getElem hlt, List.map_append]; rfl
   have hlen : (txtL g.lines (l.take k)).length = k := by rw [txtL_len, List.length_take]; omega
   have hlen2 : ((l.take k).map (vtx g.lines)).length = k := by rw [List.length_map, List.length_take]; omega
   generalize l[k] = y at h2 h4 h4' hj
   have h5 : g.lines[y]? = some g.lines[y] := List.getElem?_eq_getElem hj
   have h6 : txt g.lines y = g.lines[y].text := by unfold txt; rw [h5]
   have hxo := hg.okl g.lines[y] (List.getElem_mem _)
   rw [h6] at h4
   rw [vtx_get h5] at h4'
   generalize g.lines[y] = x at h4 h4' h5 hxo
   have h7 := vrow_text hxo.1
   have h8 := vrow_35 hxo
   have h9 : 33 ≤ 35 := by decide
   have i1 : (idR x).length = 33 := idR_len hxo
   have i2 : (idR x).take 33 = idR x := List.take_of_length_le (by omega)
   have i3 : (vrow x).take 33 = idR x := rfl
   have p1 : decide ((y : Int) < 0) = false := by simp
   have p2 : decide ((y : Int) ≥ (g.lines.length : Int)) = false := by simp; omega
   have r1 : roomOk (((txtL g.lines (l.take k)).map strow).length + 1) 16 = true := by rw [List.length_map, hlen]; simp [roomOk]; omega
   have r2 : roomOk ((((l.take k).map (vtx g.lines)).map idR).length + 1) 40 = true := by rw [List.length_map, hlen2]; simp [roomOk]; omega
   obtain ⟨v', s1, a1, a2, a3⟩ := app_grow (T := 9) (bytes := 16) (y := .d (.sl 1 [[.sc (.string x.text)]])) (ys := [[.sc (.string x.text)]]) hv rfl r1
   have hB1 := a3 0 _ hB (fun n h => by cases h)
   have hu1 := hu.keep (s' := s1) fun j n hj => a3 j _ hj fun n' h => by cases h
   obtain ⟨u', s2, b1, b2, b3⟩ := app_grow (T := 38) (bytes := 40) (y := .d (.sl 33 [idR x])) (ys := [idR x]) hu1 rfl r2
   have hB2 := b3 0 _ hB1 (fun n h => by cases h)
   have hv2 := a2.keep (s' := s2) fun j n hj => b3 j _ hj fun n' h => by cases h
   obtain ⟨t1, o1, hA1, hA2, m1⟩ := app_mark hv hB
   obtain ⟨t2, o2, hA3, hA4, m2⟩ := app_mark hu1 hB1
   simp only [h1, h2, h3, h5, h7, h8, h9, i1, i2, i3, p1, p2, hB, hB1, a1, b1, hA1, hA2, hA3, hA4, toLs_d, List.append_nil, nrow, ↓Both_true, ↓Both_false, wx, reduceCtorEq, reduceIte, Nat.reduceAdd, Nat.reduceEqDiff, Nat.reduceLT, Nat.reduceLeDiff, wj, ← List.map_take, ← List.map_drop]
   refine ⟨?_, ?_⟩
   · refine ordF_fine 0 ?_
     rcases m1 with m1 | m1 <;> rcases m2 with m2 | m2 <;> simp only [List.map_cons, List.map_nil, fine_0, fine_r, m1, m2] <;> rfl
   refine ⟨mm - 1, (k + 1, v', u', s2), by omega, ⟨rfl, rfl, rfl⟩, rfl, by dsimp only; omega, hB2, ?_, ?_⟩
   · dsimp only
     rw [h4, List.map_append]; exact hv2
   · dsimp only
     rw [h4', List.map_append]; exact b2
 · have h1 : decide ((k : Int) < (l.length : Int)) = false := by simpa using hlt
   have h2 : l.take k = l := List.take_of_length_le (by omega)
   rw [h2] at hv hu
   have d1 := hv.deep
   have d2 := hu.deep
   simp only [h1, d1, d2, dStrs, idsD, deepD, AV.toL, ↓Both_true, ↓Both_false, wx, reduceCtorEq, reduceIte, Nat.reduceAdd, Nat.reduceEqDiff, Nat.reduceLT, Nat.reduceLeDiff, wj, ← List.map_take, ← List.map_drop]
end Go.Proofs.Lh

namespace Go.Proofs.Lh
open Go Go.Bb Go.RowKit Go.Proofs.Lg
theorem hApp_len (A : List ByteArray) : ∀ (l : List Hk) (e : Nat) (out : List ByteArray), out.length ≤ (hApp A e out l).length
 | [], e, out => by rw [hApp, List.length_append]; omega
 | h :: l, e, out => by
   rw [hApp]
   have := hApp_len A l (h.pos + h.old.length) (out ++ (A.take h.pos).drop e ++ h.new)
   rw [List.length_append, List.length_append] at this
   omega
set_option maxRecDepth 10000 in
set_option maxHeartbeats 4000000 in
theorem hkApply_fn (A : List ByteArray) (l : List Hk) (hin : HIn A 0 true l) (hA : A.length ≤ 1000000) (hl : l.length ≤ 1000000) (hf : ∀ h ∈ l, h.new.length ≤ 1000000) (hR : (hApp A 0 [] l).length ≤ 1000000) :
   AFn Tryz.prog 27 [dStrs A, dHks l] (.tup [dStrs (hApp A 0 [] l), .sc (.int .i64 0)]) := by
 have hpos := HIn_pos hin
 have hck := hkCheck_fn A l hin hA hl hf
 have q1 : ((0 : Int) != 0) = false := by decide
 generalize hRR : hApp A 0 [] l = R at *
 refine AFn_of (F := k_hkApply) (okb_hkApply.trans (by kernel_rfl)) (by simp [k_hkApply]) ?_
 simp only [k_hkApply, dStrs, ↓Both_true, ↓Both_false, wx, reduceCtorEq, reduceIte, Nat.reduceAdd, Nat.reduceEqDiff, Nat.reduceLT, Nat.reduceLeDiff, wj, ← List.map_take, ← List.map_drop]
 refine CallM.data hck rfl ?_
 simp only [q1, dHks, ↓Both_true, ↓Both_false, wx, reduceCtorEq, reduceIte, Nat.reduceAdd, Nat.reduceEqDiff, Nat.reduceLT, Nat.reduceLeDiff, wj, ← List.map_take, ← List.map_drop]
 refine LoopK.at (fun b : Nat × Nat × List ByteArray × AV × List AObj => [(18, .d (.sc (.int .i64 b.1))), (17, .d (.sc (.int .i64 l.length))), (16, .d (.sl 3 (l.map dHk))), (0, .d (.sl 1 (A.map strow))), (7, b.2.2.2.1), (8, .d (.sc (.int .i64 b.2.1)))]) (fun b => b.2.2.2.2)
   (fun m b => m + b.1 = l.length ∧ (∃ g, HIn A b.2.1 g (l.drop b.1)) ∧ hApp A b.2.1 b.2.2.1 (l.drop b.1) = R ∧ GrowR 9 1 b.2.2.2.2 b.2.2.2.1 (b.2.2.1.map strow) ∧ b.2.1 ≤ A.length) l.length (0, 0, [], .nil 1, []) (by simp [SubB, Go.Bb.look, intD, dHks]) rfl ⟨rfl, ⟨true, hin⟩, hRR, GrowR.nil 9 1 _, Nat.zero_le _⟩ ?_
 rintro mm ⟨i, e, out, v, s⟩ ⟨hm, ⟨g, hh⟩, happ, hv, heA⟩
 dsimp only at hm hh happ hv heA ⊢
 by_cases hlt : i < l.length
 · have f1 : decide ((i : Int) < (l.length : Int)) = true := by simpa using hlt
   have f2 : l[i]? = some l[i] := List.getElem?_eq_getElem hlt
   have f3 : IntKind.i64.wrap ((i : Int) + 1) = ((i + 1 : Nat) : Int) := wrapN (by omega) (by omega)
   rw [List.drop_eq_getElem_cons hlt] at hh happ
   have hb1 := hpos l[i] (List.getElem_mem _)
   have hb2 := hf l[i] (List.getElem_mem _)
   generalize l[i] = h at *
   obtain ⟨c1, c2, c3, c4, c5, c6⟩ := hh
   rw [hApp] at happ
   have hlen := hApp_len A (l.drop (i + 1)) (h.pos + h.old.length) (out ++ (A.take h.pos).drop e ++ h.new)
   rw [happ] at hlen
   have he := hkEnd_fn h (by omega)
   have hq := EqualStrings_fn h.old (by omega)
   have p1 : decide (((h.pos + h.old.length : Nat) : Int) > (A.length : Int)) = false := by simp; omega
   have r33 : 3 ≤ 3 := Nat.le_refl _
   have j1 : (h.pos : Int) ≤ ((h.pos + h.old.length : Nat) : Int) := by omega
   have j2 : ((h.pos + h.old.length : Nat) : Int) ≤ (A.length : Int) := by omega
   have j3 : (e : Int) ≤ (h.pos : Int) := by omega
   have j4 : (h.pos : Int) ≤ (A.length : Int) := by omega
   rw [List.length_append, List.length_append] at hlen
   have hl1 : (out.map strow).length + (((A.take h.pos).drop e).map strow).length ≤ 1000000 := by rw [List.length_map, List.length_map]; omega
   have r1 : roomOk ((out.map strow).length + (((A.take h.pos).drop e).map strow).length) 16 = true := by simp only [roomOk, decide_eq_true_eq]; omega
   have hv1 : GrowR 9 1 (s ++ [.cells [.d (.sc (.int .i64 h.pos)), .d (.sl 1 (h.old.map strow)), .d (.sl 1 (h.new.map strow))]]) v (out.map strow) := hv.keep fun j n hj => by rw [List.getElem?_append_left (List.getElem?_eq_some_iff.1 hj).1]; exact hj
   have hb0 : (s ++ [AObj.cells [.d (.sc (.int .i64 h.pos)), .d (.sl 1 (h.old.map strow)), .d (.sl 1 (h.new.map strow))]])[s.length]? = some (.cells [.d (.sc (.int .i64 h.pos)), .d (.sl 1 (h.old.map strow)), .d (.sl 1 (h.new.map strow))]) := by simp
   obtain ⟨v1, s1, a1, a2, a3⟩ := app_grow (bytes := 16) (y := .d (.sl 1 (((A.take h.pos).drop e).map strow))) hv1 rfl r1
   have hb1' := a3 _ _ hb0 (fun n h => by cases h)
   have r2 : roomOk ((out.map strow ++ ((A.take h.pos).drop e).map strow).length + (h.new.map strow).length) 16 = true := by simp only [roomOk, decide_eq_true_eq, List.length_append, List.length_map]; omega
   obtain ⟨v2, s2, b1, b2, b3⟩ := app_grow (bytes := 16) (y := .d (.sl 1 (h.new.map strow))) a2 rfl r2
   have hb2' := b3 _ _ hb1' (fun n h => by cases h)
   obtain ⟨t1, o1, hA1, hA2, m1⟩ := app_mark hv1 hb0
   obtain ⟨t2, o2, hA3, hA4, m2⟩ := app_mark a2 hb1'
   have hout : (out ++ (A.take h.pos).drop e ++ h.new).map strow = out.map strow ++ ((A.take h.pos).drop e).map strow ++ h.new.map strow := by rw [List.map_append, List.map_append]
   simp only [f1, f2, r33, dHk, dStrs, ↓Both_true, ↓Both_false, wx, reduceCtorEq, reduceIte, Nat.reduceAdd, Nat.reduceEqDiff, Nat.reduceLT, Nat.reduceLeDiff, wj, ← List.map_take, ← List.map_drop]
   refine CallM.data he rfl ?_
   simp only [f1, f2, r33, p1, dHk, dStrs, dNat, ↓Both_true, ↓Both_false, wx, reduceCtorEq, reduceIte, Nat.reduceAdd, Nat.reduceEqDiff, Nat.reduceLT, Nat.reduceLeDiff, wj, ← List.map_take, ← List.map_drop]
   refine CallM.data he rfl ?_
   simp only [f1, f2, r33, p1, j1, j2, c4, dHk, dStrs, dNat, ↓Both_true, ↓Both_false, wx, reduceCtorEq, reduceIte, Nat.reduceAdd, Nat.reduceEqDiff, Nat.reduceLT, Nat.reduceLeDiff, wj, ← List.map_take, ← List.map_drop]
   refine CallM.data hq rfl ?_
   simp only [f1, f2, r33, p1, j1, j2, j3, j4, c4, a1, b1, hb1', hb2', hA1, hA2, hA3, hA4, dHk, dStrs, dNat, dBool, ↓Both_true, ↓Both_false, wx, reduceCtorEq, reduceIte, Nat.reduceAdd, Nat.reduceEqDiff, Nat.reduceLT, Nat.reduceLeDiff, wj, ← List.map_take, ← List.map_drop]
   refine ⟨(ordF_coarse (by simp only [List.map_cons, List.map_nil, coarse_rd, coarse_wr]; rfl)), ?_, ?_⟩
   · refine ordF_fine s.length ?_
     rcases m1 with m1 | m1 <;> rcases m2 with m2 | m2 <;> simp only [List.map_cons, List.map_nil, fine_0, fine_r, m1, m2] <;> rfl
   refine CallM.data he rfl ?_
   simp only [f3, dNat, ↓Both_true, ↓Both_false, wx, reduceCtorEq, reduceIte, Nat.reduceAdd, Nat.reduceEqDiff, Nat.reduceLT, Nat.reduceLeDiff, wj, ← List.map_take, ← List.map_drop]
   exact ⟨mm - 1, (i + 1, h.pos + h.old.length, out ++ (A.take h.pos).drop e ++ h.new, v2, s2), by omega, ⟨rfl, rfl, rfl⟩, rfl, by dsimp only; omega, ⟨false, c6⟩, happ, by dsimp only; rw [hout]; exact b2, c3⟩
 · have f1 : decide ((i : Int) < (l.length : Int)) = false := by simpa using hlt
   have hd : l.drop i = [] := List.drop_eq_nil_of_le (by omega)
   rw [hd, hApp] at happ
   have j1 : (e : Int) ≤ (A.length : Int) := by omega
   have hl2 : R.length = out.length + (A.drop e).length := by rw [← happ, List.length_append]
   have r1 : roomOk ((out.map strow).length + ((A.drop e).map strow).length) 16 = true := by simp only [roomOk, decide_eq_true_eq, List.length_map]; omega
   obtain ⟨v1, s1, a1, a2, a3⟩ := app_grow (bytes := 16) (y := .d (.sl 1 ((A.drop e).map strow))) hv rfl r1
   have a4 := a2.deep
   rw [← List.map_append, happ] at a4
   simp only [f1, j1, a1, a4, deepD, AV.toL, ↓Both_true, ↓Both_false, wx, reduceCtorEq, reduceIte, Nat.reduceAdd, Nat.reduceEqDiff, Nat.reduceLT, Nat.reduceLeDiff, wj, ← List.map_take, ← List.map_drop]
end Go.Proofs.Lh
