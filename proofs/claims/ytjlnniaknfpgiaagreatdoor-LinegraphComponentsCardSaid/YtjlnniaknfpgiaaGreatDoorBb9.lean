/-
  Part Bb9 of this claim's proof. Joined by merge.py from the texts of wip/tpl.
-/
import Derived.Test.YtjlnniaknfpgiaaGreatDoorBb8
set_option linter.unusedVariables false
set_option linter.unusedSimpArgs false
set_option linter.unnecessarySimpa false
set_option linter.unusedVariables false
namespace Go.Bb
open Go Go.RowKit Go.Ab Go.Proofs.Lg

section
variable {LL : Nat → Code → CC → Prop} {P : Program} {o : Oper} {fr : Fr} {s s' : List AObj} {d : AV}

/-- What has a number is no hole. -/
theorem RA.hdl_own {k : Cfg} {w : World} {u : Value} {v : AV} {id : Nat} (h : RA k w u v) (hv : v.hdl = some id) : ∃ o, k.own[id]? = some o ∧ o ≠ .hole := by
  cases h with
  | ptr h => cases hv; exact ⟨_, h, fun h => by cases h⟩
  | vec h1 h2 => cases hv; obtain ⟨u, n, h3, _⟩ := h2; exact ⟨_, h3, fun h => by cases h⟩
  | vptr h => cases hv; obtain ⟨u, n, h3, _⟩ := h; exact ⟨_, h3, fun h => by cases h⟩
  | win h1 h2 h3 => cases hv; exact ⟨_, h1, fun h => by cases h⟩
  | vwn h1 h2 => cases hv; obtain ⟨u, n, h3, _⟩ := h2; exact ⟨_, h3, fun h => by cases h⟩
  | mp h => cases hv; exact ⟨_, h, fun h => by cases h⟩
  | _ => cases hv
theorem RA.no_hole {B : Nat} {k : Cfg} {w : World} (hst : St LL B k s w) {u : Value} {v : AV} {id : Nat} (h : RA k w u v) (hv : v.hdl = some id) : id < s.length ∧ s[id]? ≠ some .hole := by
  obtain ⟨o, h1, h2⟩ := h.hdl_own hv
  refine ⟨by have := (List.getElem?_eq_some_iff.1 h1).1; rw [hst.len] at this; exact this, fun h3 => ?_⟩
  have := hst.hole_own h3
  rw [h1] at this
  exact h2 (Option.some.inj this)
/-- What a slot leads to stands in each store that agrees. -/
theorem agree_get {B : Nat} {k : Cfg} {w : World} {s2 : List AObj} (hst : St LL B k s2 w) (ha : Agrees s s2) {u : Value} {v : AV} {id : Nat} (h : RA k w u v) (hv : v.hdl = some id) {o : AObj} (ho : s[id]? = some o) : s2[id]? = some o := by
  obtain ⟨h1, h2⟩ := h.no_hole hst hv
  rcases ha id (List.getElem?_eq_some_iff.1 ho).1 h1 with e | e
  · exact e.trans ho
  · exact absurd e h2
/-- An operation that makes blocks, whatever else is not made yet. -/
def AMk (LL : Nat → Code → CC → Prop) (P : Program) (o : Oper) (fr : Fr) (s : List AObj) (d : AV) (s' : List AObj) : Prop :=
  ∃ x, s' = s ++ x ∧ ∀ s2, Agrees s s2 → Holes s2 s.length x.length → AOp LL P o fr s2 d (fill s2 s.length x)
theorem AMk.op (h : AMk LL P o fr s d s') : AOp LL P o fr s d s' := by
  obtain ⟨x, rfl, h2⟩ := h
  have := h2 s (Agrees.refl s) (Holes.end' s _)
  rw [fill_end] at this
  exact this
theorem fill_nil {α : Type} {l : List α} (n : Nat) : fill l n [] = l := by
  unfold fill
  simp

/-- A new variable. -/
theorem box_ok {B : Nat} {k : Cfg} {w : World} (hst : St LL B k s w) {n : Nat} (hn : Holes s n 1) {cells : Array Value} {cs : List AV} {t : TypeId} (hc : RAs k w cells.toList cs) :
    ∃ k', RA k' (w.alloc (.cells cells t)) (.pointer (some ⟨w.heap.size, 0, none⟩)) (.ptr n 0) ∧ Ext B k w k' (w.alloc (.cells cells t)) ∧ St LL B k' (fill s n [.cells cs]) (w.alloc (.cells cells t)) := by
  have hb : Below w.heap.size w (w.alloc (.cells cells t)) := (Below.refl _ _).alloc (Nat.le_refl _) _
  have hh : (w.alloc (.cells cells t)).heap[w.heap.size]? = some (.cells cells t (0, 0)) := heap_alloc_new w _
  have hlt : w.heap.size < (w.alloc (.cells cells t)).heap.size := (Array.getElem?_eq_some_iff.1 hh).1
  have hI : ∀ b, b < w.heap.size → updI k.I w.heap.size 0 b = k.I b := fun b hb => updI_ne _ _ (by omega)
  obtain ⟨he, hs2⟩ := hst.newAt hb hI hn (.blk w.heap.size) (.cells cs) (fun b hb => by cases hb; exact ⟨Nat.le_refl _, hlt⟩) fun hm => ⟨t, cells.toList, by simpa using hh, hc.mono hm, updI_self ..⟩
  exact ⟨_, .ptr (fill_own hst hn _), he, hs2⟩

theorem ok_box {t : TypeId} {p : Operand} {x : X} (ho : o.op = .box t p) (hx : cX P t p = some x) (h : (CI.box x).sem fr s = some (d, s')) : AMk LL P o fr s d s' := by
  have hp : p ∈ o.op.operands := by rw [ho]; simp [Op.operands]
  obtain ⟨cs, hcs, hh⟩ := map_inv h
  obtain ⟨rfl, rfl⟩ := Prod.mk.inj hh
  obtain ⟨v, hv, hc⟩ := bind_inv hcs
  refine ⟨[.cells cs], rfl, fun s2 _ hn => ?_⟩
  intro B k a w hops hst
  obtain ⟨k', m1, m2, m3⟩ := box_ok hst hn (t := t) ((ev_ok hops hp hx hv).cells hc)
  refine OpWp.value ?_ ⟨k', m1, m2, m3⟩
  unfold execOp; rw [ho]
  refine run_value ?_
  simp only [Instr.box, newVar, newRow, Sem.run_bind, Sem.run_pure, run_newObj, Result.andThen_ok]
  rfl

theorem ok_alc {t : TypeId} {i : TypeInfo} {z : Value} {c : AV} (ho : o.op = .alloc t) (hi : P.info? t = some i) (hz : i.zero = some z) (hc : cA P t z = some c) (h : (CI.box (.c c)).sem fr s = some (d, s')) : AMk LL P o fr s d s' := by
  obtain ⟨cs, hcs, hh⟩ := map_inv h
  obtain ⟨rfl, rfl⟩ := Prod.mk.inj hh
  obtain ⟨v, hv, hc2⟩ := bind_inv hcs
  obtain rfl := Option.some.inj hv
  refine ⟨[.cells cs], rfl, fun s2 _ hn => ?_⟩
  intro B k a w hops hst
  obtain ⟨k', m1, m2, m3⟩ := box_ok hst hn (t := t) ((cA_ok hc k w).cells hc2)
  refine OpWp.value ?_ ⟨k', m1, m2, m3⟩
  unfold execOp; rw [ho]
  refine run_value ?_
  simp only [Instr.alloc, zeroValue, typeInfo, newVar, newRow, Sem.run_bind, Sem.run_pure, run_newObj, Result.andThen_ok, run_program, hi, hz]
  rfl

/-- .. whose type is told. -/
theorem ok_alcT {t : TypeId} {i : TypeInfo} {z : Value} {c : AV} (ho : o.op = .alloc t) (hi : P.info? t = some i) (hz : i.zero = some z) (hc : cA P t z = some c) (h : (CI.bxt t (.c c)).sem fr s = some (d, s')) : AMk LL P o fr s d s' := by
  obtain ⟨cs, hcs, hh⟩ := map_inv (show ((some c).bind AV.cells).map (fun cs => (AV.ptr s.length 0, s ++ [AObj.tcells t cs])) = some (d, s') from h)
  obtain ⟨rfl, rfl⟩ := Prod.mk.inj hh
  refine ⟨[.tcells t cs], rfl, fun s2 _ hn => ?_⟩
  intro B k a w hops hst
  have hras := (cA_ok hc k w).cells hcs
  have hb : Below w.heap.size w (w.alloc (.cells z.cells t)) := (Below.refl _ _).alloc (Nat.le_refl _) _
  have hh : (w.alloc (.cells z.cells t)).heap[w.heap.size]? = some (.cells z.cells t (0, 0)) := heap_alloc_new w _
  have hlt : w.heap.size < (w.alloc (.cells z.cells t)).heap.size := (Array.getElem?_eq_some_iff.1 hh).1
  have hI : ∀ b, b < w.heap.size → updI k.I w.heap.size 0 b = k.I b := fun b hb => updI_ne _ _ (by omega)
  obtain ⟨he, hs2⟩ := hst.newAt hb hI hn (.blk w.heap.size) (.tcells t cs) (fun b hb => by cases hb; exact ⟨Nat.le_refl _, hlt⟩) fun hm => ⟨z.cells.toList, by simpa using hh, hras.mono hm, updI_self ..⟩
  refine OpWp.value (v := .pointer (some ⟨w.heap.size, 0, none⟩)) ?_ ⟨_, .ptr (fill_own hst hn _), he, hs2⟩
  unfold execOp; rw [ho]
  refine run_value ?_
  simp only [Instr.alloc, zeroValue, typeInfo, newVar, newRow, Sem.run_bind, Sem.run_pure, run_newObj, Result.andThen_ok, run_program, hi, hz]
  rfl

/-- A row's cells written over. -/
theorem keep_setRow {B : Nat} {k : Cfg} {w : World} {b : Nat} {cs : Array Value} (hB : B ≤ b) (hI : k.I b = 0) : KeepI k.I w k.I (w.setRow b cs) ∧ Below B w (w.setRow b cs) := by
  refine ⟨fun b' q u hq hc => ⟨hq, ?_⟩, rfl, rfl, rfl, by simp, fun j hj => setRow_other w b j _ (by omega)⟩
  have hne : b' ≠ b := by rintro rfl; omega
  exact (World.cell?_of_block (w := w) (setRow_other w b b' _ hne)).trans hc
theorem mono_same {k : Cfg} {w w' : World} (h : KeepI k.I w k.I w') : Mono k w k w' := ⟨h, fun _ o ho => ⟨o, ho, OwnLe.refl o⟩⟩
theorem own_set_self {k : Cfg} {id : Nat} {o : Own} (h : k.own[id]? = some o) : k.own = k.own.set id o := by
  obtain ⟨h1, h2⟩ := List.getElem?_eq_some_iff.1 h
  rw [← h2, List.set_getElem_self]
theorem get_row_cells {us us' ys : List Value} {off n m : Nat} (h : n ≤ us.length) (ho : off + m ≤ n) (hm : ys.length = m) : (us.take off ++ ys ++ us.drop (off + m)).take n = (us.take n).take off ++ ys ++ (us.take n).drop (off + m) := by
  refine List.ext_getElem? fun r => ?_
  simp only [List.append_assoc, List.getElem?_append, List.getElem?_take, List.getElem?_drop, List.length_take, hm]
  repeat' split
  all_goals first
    | rfl
    | omega
    | (congr 1; omega)
    | (exfalso; omega)
    | (simp_all; done)
    | (symm; apply List.getElem?_eq_none; omega)
    | (apply List.getElem?_eq_none; omega)

theorem ok_st {t : TypeId} {i : TypeInfo} {p q : Operand} {x y : X} (ho : o.op = .store t p q) (hi : P.info? t = some i) (hx : cX P 0 p = some x) (hy : cX P t q = some y) (h : (CI.st i.size x y).sem fr s = some (d, s')) : AOp LL P o fr s d s' := by
  have hp : p ∈ o.op.operands := by rw [ho]; simp [Op.operands]
  have hq : q ∈ o.op.operands := by rw [ho]; simp [Op.operands]
  obtain ⟨pv, hpv, h1⟩ := bind_inv (show ((x.ev fr).bind fun p => ((y.ev fr).bind AV.cells).bind fun vs => semSt s i.size vs p) = some (d, s') from h)
  obtain ⟨vs, hvs, h2⟩ := bind_inv h1
  obtain ⟨yv, hyv, hcv⟩ := bind_inv hvs
  intro B k a w hops hst
  have hr := ev_ok hops hp hx hpv
  have hcells := (ev_ok hops hq hy hyv).cells hcv
  have fin : ∀ (b off : Nat) (cur : Array Value) (ty : TypeId), a.eval p = .pointer (some ⟨b, off, none⟩) → w.heap[b]? = some (.cells cur ty (0, 0)) → vs.length = i.size → off + i.size ≤ cur.size →
      (execOp a.eval o).run P w = .ok .skip (w.setRow b (cur.toList.take off ++ (a.eval q).cells.toList ++ cur.toList.drop (off + i.size)).toArray) := fun b off cur ty hva g2 hm hoff => by
    have hlen : (a.eval q).cells.toList.length = i.size := by rw [hcells.1, hm]
    have hsz : (a.eval q).cells.size = i.size := by simpa using hlen
    have hst1 := run_storeCells_at P b off ty (a.eval q).cells.toList 0 cur w g2 (by omega) hcells.2.1
    unfold execOp; rw [ho]
    refine run_unit ?_
    have hne : ¬ ((a.eval q).cells.size ≠ i.size) := fun hh => hh hsz
    simp only [Instr.storeAt, hva, Instr.sureAddr, storeVar, sizeOf, typeInfo, Sem.run_bind, Sem.run_pure, Result.andThen_ok, run_program, hi, if_neg hne]
    rw [hst1]
    simp [hlen]
  unfold semSt at h2
  split at h2
  · rename_i id off
    obtain ⟨cs, hcs, h3⟩ := bind_inv h2
    have hid := cellsO_inv hcs
    unfold putCells at h3
    split at h3
    · rename_i hcc
      obtain ⟨hm, hoff⟩ := hcc
      obtain ⟨rfl, rfl⟩ := Prod.mk.inj (Option.some.inj h3)
      obtain ⟨b, hb, hva⟩ := hr.ptr_inv
      obtain ⟨b', t', us, g1, g2, g3, gI⟩ := hst.cells hid
      rw [hb] at g1; cases g1
      have hl := g3.1
      have hrun := fin b off us.toArray t' hva g2 hm (by simp; omega)
      have hbB := hst.lies id _ b hb rfl
      obtain ⟨hk, hbl⟩ := keep_setRow (k := k) (w := w) (cs := (us.toArray.toList.take off ++ (a.eval q).cells.toList ++ us.toArray.toList.drop (off + i.size)).toArray) hbB.1 gI
      obtain ⟨he, hs2⟩ := hst.upd (k' := k) hb (.cells (cs.take off ++ vs ++ cs.drop (off + i.size))) (own_set_self hb) (OwnLe.refl _) hk hbl (fun b2 hb2 => by cases hb2; exact ⟨.inl rfl, by rw [setRow_size]; exact hbB.2, hbB.1⟩)
        (fun b2 hlt hne => ⟨setRow_other w b b2 _ (fun e => hne (by rw [e]; rfl)), rfl⟩)
        ⟨t', _, setRow_heap w b _ _ t' (0, 0) g2, by
          have hm2 := mono_same hk
          simpa using (((g3.mono hm2).take off).append (hcells.mono hm2)).append ((g3.mono hm2).drop (off + i.size)), gI⟩
      exact OpWp.skip hrun ⟨k, RA.undf, he, hs2⟩
    · cases h3
  · rename_i id n off
    obtain ⟨⟨sz, ds⟩, hcs, h3⟩ := bind_inv h2
    obtain ⟨e, hid, hsz, hlen⟩ := vecO_inv hcs
    have heo : eOf s[id]? = e := by rw [hid]; rfl
    unfold putVec at h3
    split at h3
    · rename_i hcc
      obtain ⟨hm, hoff⟩ := hcc
      obtain ⟨rfl, rfl⟩ := Prod.mk.inj (Option.some.inj h3)
      dsimp only at hoff ⊢
      rw [heo]
      obtain ⟨b, hva, hb⟩ := hr.vptr_inv
      obtain ⟨u, xs, cap, cur, g1, g2, g3, g4, g5, g6, g7, g8, g9, g10, g11, g12⟩ := vec_at hst hid hsz hlen hb
      have hle : n * sz ≤ cap * sz := Nat.mul_le_mul_right _ g6
      have hrun := fin b off cur e hva g5 hm (by omega)
      have hl2 : (a.eval q).cells.toList.length = i.size := by rw [hcells.1, hm]
      obtain ⟨hk, hbl⟩ := keep_setRow (k := k) (w := w) (cs := (cur.toList.take off ++ (a.eval q).cells.toList ++ cur.toList.drop (off + i.size)).toArray) g4 g11
      have hub : u.ownBlock = some b := by rw [g3]; rfl
      have hlt : b < w.heap.size := (Array.getElem?_eq_some_iff.1 g5).1
      have hcl : cur.toList.length = cap * sz := by simpa using g8
      have hcur : (cur.toList.take off ++ (a.eval q).cells.toList ++ cur.toList.drop (off + i.size)).take (n * sz) = xs.take off ++ (a.eval q).cells.toList ++ xs.drop (off + i.size) := by
        rw [get_row_cells (us' := []) (by omega) (by omega) hl2, g9]
      have hl5 : (xs.take off ++ (a.eval q).cells.toList ++ xs.drop (off + i.size)).length = n * sz := by
        have := g10.1
        simp only [List.length_append, List.length_take, List.length_drop, hl2]; omega
      obtain ⟨he, hs2⟩ := hst.upd (k' := k) g1 (.vec e sz (ds.take off ++ vs ++ ds.drop (off + i.size))) (own_set_self g1) (OwnLe.refl _) hk hbl (fun b2 hb2 => by rw [show (Own.row u n).block = some b from hub] at hb2; cases hb2; exact ⟨.inl hub, by rw [setRow_size]; exact hlt, g4⟩)
        (fun b2 hlt hne => ⟨setRow_other w b b2 _ (fun e => hne (by rw [e]; exact hub)), rfl⟩)
        ⟨xs.take off ++ (a.eval q).cells.toList ++ xs.drop (off + i.size), ⟨hl5, .inr ⟨b, cap, _, g3, g4, setRow_heap w b _ _ e (0, 0) g5, g6, g7, by simp only [List.size_toArray, List.length_append, List.length_take, List.length_drop, hl2, hcl]; omega, hcur⟩⟩,
          (fun g hg => by rw [hub] at hg; cases hg; exact g11), by simp only [List.length_append, List.length_take, List.length_drop, hm]; omega, by
          have hm2 := mono_same hk
          simpa [List.append_assoc] using (((g10.mono hm2).take off).append (hcells.mono hm2)).append ((g10.mono hm2).drop (off + i.size))⟩
      exact OpWp.skip hrun ⟨k, RA.undf, he, hs2⟩
    · cases h3
  · cases h2

/-- Cells of a row that is written, written. -/
theorem vec_put {B : Nat} {k : Cfg} {w : World} (hst : St LL B k s w) {id e sz n : Nat} {ds : List AV} (hid : s[id]? = some (.vec e sz ds)) (hsz : 0 < sz) (hlen : ds.length = n * sz) {b : Nat} (hb : ∃ u n', k.own[id]? = some (.row u n') ∧ n ≤ n' ∧ (n = n' → u.ownBlock = some b))
    {ns : List Value} {vs : List AV} (hns : RAs k w ns vs) {off : Nat} (hoff : off + ns.length ≤ n * sz) :
    ∃ cur, w.heap[b]? = some (.cells cur e (0, 0)) ∧ n * sz ≤ cur.size ∧ Ext B k w k (w.setRow b (cur.toList.take off ++ ns ++ cur.toList.drop (off + ns.length)).toArray) ∧
      St LL B k (s.set id (.vec e sz (ds.take off ++ vs ++ ds.drop (off + ns.length)))) (w.setRow b (cur.toList.take off ++ ns ++ cur.toList.drop (off + ns.length)).toArray) := by
  obtain ⟨u, xs, cap, cur, g1, g2, g3, g4, g5, g6, g7, g8, g9, g10, g11, g12⟩ := vec_at hst hid hsz hlen hb
  have hle : n * sz ≤ cap * sz := Nat.mul_le_mul_right _ g6
  obtain ⟨hk, hbl⟩ := keep_setRow (k := k) (w := w) (cs := (cur.toList.take off ++ ns ++ cur.toList.drop (off + ns.length)).toArray) g4 g11
  have hub : u.ownBlock = some b := by rw [g3]; rfl
  have hlt : b < w.heap.size := (Array.getElem?_eq_some_iff.1 g5).1
  have hcl : cur.toList.length = cap * sz := by simpa using g8
  have hcur : (cur.toList.take off ++ ns ++ cur.toList.drop (off + ns.length)).take (n * sz) = xs.take off ++ ns ++ xs.drop (off + ns.length) := by
    rw [get_row_cells (us' := []) (by omega) (by omega) rfl, g9]
  have hl5 : (xs.take off ++ ns ++ xs.drop (off + ns.length)).length = n * sz := by
    have := g10.1
    simp only [List.length_append, List.length_take, List.length_drop]; omega
  obtain ⟨he, hs2⟩ := hst.upd (k' := k) g1 (.vec e sz (ds.take off ++ vs ++ ds.drop (off + ns.length))) (own_set_self g1) (OwnLe.refl _) hk hbl (fun b2 hb2 => by rw [show (Own.row u n).block = some b from hub] at hb2; cases hb2; exact ⟨.inl hub, by rw [setRow_size]; exact hlt, g4⟩)
    (fun b2 hlt hne => ⟨setRow_other w b b2 _ (fun e => hne (by rw [e]; exact hub)), rfl⟩)
    ⟨xs.take off ++ ns ++ xs.drop (off + ns.length), ⟨hl5, .inr ⟨b, cap, _, g3, g4, setRow_heap w b _ _ e (0, 0) g5, g6, g7, by simp only [List.size_toArray, List.length_append, List.length_take, List.length_drop, hcl]; omega, hcur⟩⟩,
      (fun g hg => by rw [hub] at hg; cases hg; exact g11), by have := hns.1; simp only [List.length_append, List.length_take, List.length_drop]; omega, by
      have hm2 := mono_same hk
      simpa [List.append_assoc] using (((g10.mono hm2).take off).append (hns.mono hm2)).append ((g10.mono hm2).drop (off + ns.length))⟩
  exact ⟨cur, g5, by omega, he, hs2⟩

theorem zeroCells_flat (z : Array Value) : ∀ n, (Builtin.zeroCells z n).toList = (List.replicate n z.toList).flatten := by
  have hget : ∀ (n i : Nat), i < n * z.size → (List.replicate n z.toList).flatten[i]? = z.toList[i % z.size]? := fun n => by
    induction n with
    | zero => intro i hi; omega
    | succ n ih =>
      intro i hi
      rw [List.replicate_succ, List.flatten_cons, List.getElem?_append]
      by_cases h : i < z.toList.length
      · rw [if_pos h, Nat.mod_eq_of_lt (by simpa using h)]
      · rw [if_neg h]
        have h' : z.size ≤ i := by simpa using h
        have := ih (i - z.size) (by rw [Nat.add_mul] at hi; omega)
        rw [Array.length_toList, this, Nat.mod_eq_sub_mod h']
  intro n
  refine List.ext_getElem? fun i => ?_
  by_cases hi : i < n * z.size
  · rw [hget n i hi]
    have hz : 0 < z.size := by
      rcases Nat.eq_zero_or_pos z.size with e | e
      · rw [e] at hi; omega
      · exact e
    have hm := Nat.mod_lt i hz
    simp [Builtin.zeroCells, hi, hm]
  · rw [List.getElem?_eq_none (by simp [Builtin.zeroCells]; omega), List.getElem?_eq_none (by simp; omega)]

theorem flatten_rep {α : Type} (l : List α) (n : Nat) : (List.replicate n l).flatten.length = n * l.length := by
  simp [List.length_flatten]
theorem RAs.rep {k : Cfg} {w : World} {us : List Value} {ds : List AV} (h : RAs k w us ds) : ∀ n, RAs k w (List.replicate n us).flatten (List.replicate n ds).flatten
  | 0 => ⟨rfl, by simp, by simp⟩
  | n + 1 => by
    rw [List.replicate_succ, List.replicate_succ, List.flatten_cons, List.flatten_cons]
    exact h.append (h.rep n)

/-- Elements set to zero. -/
theorem ok_clr {t e : TypeId} {i : TypeInfo} {z : Value} {p : Operand} {x : X} (ho : o.op = .call { callee := .builtin .clear, args := #[p], argTypes := #[t] }) (hu : P.underlying t = some (.slice e)) (hi : P.info? e = some i) (hz : i.zero = some z) (h1 : z.cells.all (·.oneCell') = true) (hzs : z.cells.size = i.size)
    (hx : cX P t p = some x) (h : (CI.clr i.size (zCells P e z.cells.toList) x).sem fr s = some (d, s')) : AOp LL P o fr s d s' := by
  have hp : p ∈ o.op.operands := by rw [ho]; simp [Op.operands, Call.operands]
  obtain ⟨xv, hxv, h2⟩ := bind_inv (show (x.ev fr).bind (semClr s i.size (zCells P e z.cells.toList)) = some (d, s') from h)
  intro B k a w hops hst
  have hr := ev_ok hops hp hx hxv
  unfold semClr at h2
  split at h2
  · rename_i id N off n sz'
    obtain ⟨⟨sz, ds⟩, hcs, h3⟩ := bind_inv h2
    obtain ⟨e', hid, hsz, hlen⟩ := vecO_inv hcs
    have heo : eOf s[id]? = e' := by rw [hid]; rfl
    dsimp only at h3
    split at h3
    · rename_i hcc
      obtain ⟨⟨rfl, rfl, c1⟩, c2, c3⟩ := hcc
      obtain ⟨rfl, rfl⟩ := Prod.mk.inj (Option.some.inj h3)
      rw [heo]
      obtain ⟨_, u, n', hk, hle, heq⟩ := hr.vwn_inv
      obtain ⟨u2, n2, xs, g1, g2, g3, g4, g5⟩ := hst.vec hid
      rw [hk] at g1; cases g1
      have hmn : N = n' := by
        rw [hlen] at g4
        exact Nat.eq_of_mul_eq_mul_right hsz g4
      subst hmn
      obtain ⟨b, c, hu0, hvv, _, _⟩ := heq rfl
      have hub : u.ownBlock = some b := by rw [hu0]; rfl
      have hone : ∀ v ∈ z.cells.toList, v.oneCell' = true := fun v hv => Array.all_eq_true_iff_forall_mem.1 h1 v (by simpa using hv)
      have hras : RAs k w (List.replicate n z.cells.toList).flatten (List.replicate n (zCells P e z.cells.toList)).flatten := (zCells_ok (P := P) (t := e) hone k w).rep n
      have hzl : (List.replicate n z.cells.toList).flatten.length = n * i.size := by rw [flatten_rep, Array.length_toList, hzs]
      have hfit : off * i.size + n * i.size ≤ N * i.size := by rw [← Nat.add_mul]; exact Nat.mul_le_mul_right _ c3
      obtain ⟨cur, hh, hcur, he, hs2⟩ := vec_put hst hid hsz hlen ⟨u, N, hk, Nat.le_refl _, fun _ => hub⟩ hras (off := off * i.size) (by omega)
      rw [hzl] at he hs2
      have hst1 := run_storeCells_at P b (off * i.size) e' (List.replicate n z.cells.toList).flatten 0 cur w hh (by omega) hras.2.1
      rw [Nat.add_zero, hzl] at hst1
      refine OpWp.value ?_ ⟨k, .d (.sc _), he, hs2⟩
      unfold execOp; rw [ho]
      obtain ⟨m, rfl⟩ : ∃ m, n = m + 1 := ⟨n - 1, by omega⟩
      have hzv : (zeroValue e).run P w = .ok z w := by simp [zeroValue, typeInfo, hi, hz]
      simp only [resolve, invoke, builtin, Sem.run_bind, Sem.run_pure, Result.andThen_ok, List.map_toArray, List.map_cons, List.map_nil, hvv]
      simp [Builtin.clear_, run_underlying hu, hzv, zeroCells_flat, hst1]
    · cases h3
  · cases h2

/-- Cells stored where nothing is frozen. -/
theorem run_storeCells_atG (P : Program) (g o : Nat) (t : TypeId) (fz : Nat × Nat) : ∀ (vs : List Value) (i : Nat) (cur : Array Value) (w : World), w.heap[g]? = some (.cells cur t fz) → (fz.2 ≤ o + i ∨ cur.size ≤ fz.1) → o + i + vs.length ≤ cur.size → (∀ v ∈ vs, v.oneCell' = true) →
    (storeCells ⟨g, o, none⟩ vs i).run P w = .ok () (w.setRow g (cur.toList.take (o + i) ++ vs ++ cur.toList.drop (o + i + vs.length)).toArray)
  | [], i, cur, w, hg, _, _, _ => by
    simp only [storeCells, List.append_nil, List.length_nil, Nat.add_zero, List.take_append_drop, Array.toArray_toList]
    rw [setRow_self w g cur t fz hg]
    rfl
  | v :: rest, i, cur, w, hg, hfz, hl, h1 => by
    have hi : o + i < cur.size := by simp at hl; omega
    have hadd : (⟨g, o, none⟩ : Addr).add i = ⟨g, o + i, none⟩ := by unfold Addr.add; split <;> simp_all
    have hcell : w.cell? ⟨g, o + i, none⟩ = some cur[o + i] := by simp [World.cell?, hg, hi]
    have hfro : w.frozen? ⟨g, o + i, none⟩ = false := by
      obtain ⟨lo, hi'⟩ := fz
      simp only [World.frozen?, hg, Bool.and_eq_false_iff, decide_eq_false_iff_not]
      simp only at hfz
      rcases hfz with hfz | hfz
      · right; omega
      · left; omega
    have hst : (store ((⟨g, o, none⟩ : Addr).add i) v).run P w = .ok () (w.setRow g (cur.setIfInBounds (o + i) v)) := by
      rw [hadd, run_store P w _ v _ (h1 v (by simp)), hcell]
      simp [hfro, setCell_eq_setRow w g (o + i) cur t fz v hg]
    have ih := run_storeCells_atG P g o t fz rest (i + 1) (cur.setIfInBounds (o + i) v) (w.setRow g (cur.setIfInBounds (o + i) v)) (setRow_heap w g cur _ t _ hg) (by simp; omega) (by simp at hl ⊢; omega) (fun x hx => h1 x (by simp [hx]))
    simp only [storeCells, Sem.run_bind, hst, Result.andThen_ok, ih, setRow_setRow]
    congr 3
    have e := list_seg_step cur.toList (o + i) v rest (by simp at hl ⊢; omega)
    simpa [Array.toList_setIfInBounds, Nat.add_assoc] using e
theorem run_append_roomG (w : World) (t ty e : TypeId) (i : TypeInfo) (ht : P.underlying t = some (.slice e)) (hi : P.info? e = some i)
    (g sLen sCap : Nat) (cur : Array Value) (fz : Nat × Nat) (hg : w.heap[g]? = some (.cells cur e fz)) (hfz : fz.2 ≤ sLen * i.size ∨ cur.size ≤ fz.1)
    (a : Addr) (m c : Nat) (news : List Value) (hl : news.length = m * i.size) (hnews : ∀ j u, news[j]? = some u → w.cell? (a.add j) = some u) (h1 : ∀ u ∈ news, u.oneCell' = true)
    (hroom : sLen + m ≤ sCap) (hfit : sLen * i.size + news.length ≤ cur.size) :
    (Builtin.append_ #[t, t] ty #[.slice (some ⟨g, 0, none⟩) sLen sCap, .slice (some a) m c]).run P w =
      .ok (.slice (some ⟨g, 0, none⟩) (sLen + m) sCap) (w.setRow g (cur.toList.take (sLen * i.size) ++ news ++ cur.toList.drop (sLen * i.size + news.length)).toArray) := by
  have hf := run_firstCells_some (P := P) w i.size m a m c news hl hnews
  have hst := run_storeCells_atG P g (sLen * i.size) e fz news 0 cur w hg (by simpa using hfz) (by simpa using hfit) h1
  simp only [Nat.add_zero] at hst
  simp [Builtin.append_, run_underlying ht, sizeOf, typeInfo, hi, Builtin.lenOf, hroom, hf, Addr.add_lit, hst]

/-- An append, in place or into a new block. -/
theorem run_app2 (w : World) (base : Nat) (t ty e : TypeId) (i : TypeInfo) (z : Value) (ht : P.underlying t = some (.slice e)) (hi : P.info? e = some i) (hz : i.zero = some z) (hzs : z.cells.size = i.size)
    (v : Value) (n : Nat) (xs : List Value) (hown : ownsG w base e i.size v n xs) (x : Value) (m : Nat) (news : List Value) (hx : SrcAt w x m i.size news) (h1 : ∀ u ∈ news, u.oneCell' = true)
    (h63 : n + m ≤ 9223372036854775807) (hbytes : (n + m) * i.bytes ≤ 140737488355328) (hbase : base ≤ w.heap.size) :
    ∃ v' w', (Builtin.append_ #[t, t] ty #[v, x]).run P w = .ok v' w' ∧ ((m = 0 ∧ v' = v ∧ w' = w) ∨
      (0 < m ∧ (ownsG w' base e i.size v' (n + m) (xs ++ news) ∧ (w.ownsRow base e i.size v n xs → w'.ownsRow base e i.size v' (n + m) (xs ++ news))) ∧ Below base w w' ∧ ((∃ g, v'.ownBlock = some g ∧ v.ownBlock = some g ∧ w.grownBy w' (some g)) ∨ (v'.ownBlock = some w.heap.size ∧ w.heap.size < w'.heap.size ∧ w.grownBy w' none)))) := by
  obtain ⟨a0, c0, rfl⟩ := ownsG_form hown
  have hcap := ownsG_cap hown
  by_cases hm : m = 0
  · subst hm
    refine ⟨_, w, ?_, .inl ⟨rfl, rfl, rfl⟩⟩
    obtain ⟨hl, ⟨c, rfl, _⟩ | ⟨ad, c, rfl, hc⟩⟩ := hx
    · cases a0 with
      | none => simp [Builtin.append_, run_underlying ht, sizeOf, typeInfo, hi, Builtin.lenOf, Builtin.firstCells, hcap]
      | some a0 => simp [Builtin.append_, run_underlying ht, sizeOf, typeInfo, hi, Builtin.lenOf, Builtin.firstCells, hcap, storeCells]
    · cases a0 with
      | none => simp [Builtin.append_, run_underlying ht, sizeOf, typeInfo, hi, Builtin.lenOf, Builtin.firstCells, hcap, loadCells, loadCellsFrom]
      | some a0 => simp [Builtin.append_, run_underlying ht, sizeOf, typeInfo, hi, Builtin.lenOf, Builtin.firstCells, hcap, storeCells, loadCells, loadCellsFrom]
  · obtain ⟨hl, ⟨c, _, h0⟩ | ⟨ad, c, rfl, hc⟩⟩ := hx
    · exact absurd h0 hm
    have hlen : (xs ++ news).length = (n + m) * i.size := by rw [List.length_append, hown.1, hl, Nat.add_mul]
    have grown : ∀ (old : Nat), old < n + m →
        (w.drew.alloc (.cells (xs.toArray ++ news.toArray ++ Builtin.zeroCells z.cells (grownCap w (n + m) old e - (n + m))) e)).ownsRow base e i.size
          (.slice (some ⟨w.heap.size, 0, none⟩) (n + m) (grownCap w (n + m) old e)) (n + m) (xs ++ news) ∧
        w.grownBy (w.drew.alloc (.cells (xs.toArray ++ news.toArray ++ Builtin.zeroCells z.cells (grownCap w (n + m) old e - (n + m))) e)) none := by
      intro old ho
      have hge := grownCap_ge w (n + m) old e
      have hcm : grownCap w (n + m) old e ≤ maxLen := grownCap_le_maxLen w (n + m) old e (by unfold maxLen; exact h63)
      refine ⟨⟨hlen, .inr ⟨w.heap.size, _, _, rfl, hbase, heap_alloc_new w.drew _, hge, hcm, ?_, ?_⟩⟩, ⟨rfl, rfl, rfl, by simp, fun k hk _ => Below.heap_alloc w.drew _ k (by simpa using hk)⟩⟩
      · simp only [Array.size_append, List.size_toArray, size_zeroCells, hzs, hown.1, hl, ← Nat.add_mul]
        congr 1
        omega
      · simp only [Array.toList_append, List.append_assoc]
        rw [← List.append_assoc, ← hlen]
        exact List.take_left
    rcases hown.2 with ⟨hv, rfl⟩ | ⟨g, cap, cur, fz, hv, hbg, hg, hnc, hcm, hcs, htake, hfz⟩
    · cases hv
      have hx : xs = [] := List.eq_nil_of_length_eq_zero (by simpa using hown.1)
      subst hx
      have hr := run_append_nil (P := P) w t ty e i z ht hi hz ad m c news hl hc (by omega) (by omega) (by have hb := hbytes; simp only [Nat.zero_add] at hb; omega)
      have hgr := grown 0 (by omega)
      simp only [Nat.zero_add, List.nil_append, Array.empty_append] at hgr ⊢
      exact ⟨_, _, hr, .inr ⟨by omega, ⟨ownsG.of hgr.1, fun _ => hgr.1⟩, (Below.refl _ _).grown hgr.2 hbase (by simp), .inr ⟨rfl, by simp, hgr.2⟩⟩⟩
    · cases hv
      by_cases hroom : n + m ≤ c0
      · have hfit : n * i.size + news.length ≤ cur.size := by rw [hl, hcs, ← Nat.add_mul]; exact Nat.mul_le_mul_right _ hroom
        have hr := run_append_roomG (P := P) w t ty e i ht hi g n c0 cur fz hg hfz ad m c news hl hc h1 hroom hfit
        have hgb : w.grownBy (w.setRow g (cur.toList.take (n * i.size) ++ news ++ cur.toList.drop (n * i.size + news.length)).toArray) (some g) := ⟨rfl, rfl, rfl, by simp, fun k _ hk => setRow_other w g k _ (fun e => hk (by simp [e]))⟩
        have hs1 : (cur.toList.take (n * i.size) ++ news ++ cur.toList.drop (n * i.size + news.length)).toArray.size = cur.size := by
          simp only [List.size_toArray, List.length_append, List.length_take, List.length_drop, Array.length_toList]
          omega
        have hs2 : (cur.toList.take (n * i.size) ++ news ++ cur.toList.drop (n * i.size + news.length)).toArray.toList.take ((n + m) * i.size) = xs ++ news := by
          rw [htake, ← hlen]
          exact List.take_left
        refine ⟨_, _, hr, .inr ⟨by omega, ⟨⟨hlen, .inr ⟨g, c0, _, fz, rfl, hbg, setRow_heap w g cur _ e _ hg, hroom, hcm, hs1.trans hcs, hs2, ?_⟩⟩, fun hR => ⟨hlen, .inr ⟨g, c0, _, rfl, hbg, setRow_heap w g cur _ e _ ?_, hroom, hcm, hs1.trans hcs, hs2⟩⟩⟩, (Below.refl _ _).grown hgb hbase (by simp; exact hbg), .inl ⟨g, rfl, rfl, hgb⟩⟩⟩
        · rw [hs1]
          rcases hfz with hfz | hfz
          · exact .inl (Nat.le_trans hfz (Nat.mul_le_mul_right _ (Nat.le_add_right n m)))
          · exact .inr hfz
        · rcases hR.2 with ⟨hv, _⟩ | ⟨g', cap', cur', hv, _, hg', _⟩
          · cases hv
          · cases hv
            rw [hg] at hg'
            have := Option.some.inj hg'
            injection this with e1 _ e3
            rw [hg, e3]
      · have holds : ∀ j u, xs[j]? = some u → w.cell? ((⟨g, 0, none⟩ : Addr).add j) = some u := hown.cells (g := g) rfl
        have hr := run_append_grow (P := P) w t ty e i z ht hi hz ⟨g, 0, none⟩ n c0 xs hown.1 holds ad m c news hl hc (by omega) (by omega) (growslice_fits (by omega) hbytes)
        have hgr := grown c0 (by omega)
        exact ⟨_, _, hr, .inr ⟨by omega, ⟨ownsG.of hgr.1, fun _ => hgr.1⟩, (Below.refl _ _).grown hgr.2 hbase (by simp), .inr ⟨rfl, by simp, hgr.2⟩⟩⟩

/-- An owned row's cells are what its data say. -/
theorem row_cells {I : Nat → Nat} {w : World} {B e sz : Nat} {v : Value} {rows : List (List D)} {xs : List Value} (h : RD I w v (.sl sz rows)) (ho : ownsG w B e sz v rows.length xs) : RDs I w xs rows.flatten := by
  obtain ⟨a, c, us, rfl, h2, h3, h4, h5, h6⟩ := h.sl_inv
  have hfl := flatten_len rows h2
  have : xs = us := by
    have hl1 : us.length = rows.length * sz := by rw [h5.1, hfl]
    have hl2 : xs.length = rows.length * sz := ho.1
    refine List.ext_getElem? fun i => ?_
    by_cases hi : i < rows.length * sz
    · have hu : us[i]? = some us[i] := List.getElem?_eq_getElem (by omega)
      rw [hu]
      rcases ho.2 with ⟨hv, hn⟩ | ⟨g, cap, cur, fz, hv, hbg, hg, hnc, hcm, hcs, htake, hfz⟩
      · rw [hn] at hi; simp at hi
      · cases hv
        obtain ⟨b, off, hb, hc⟩ := h6 (by intro hr; rw [hr] at hi; simp at hi)
        cases hb
        have := (hc i _ hu).2
        rw [Nat.zero_add, cell_of_row w g i cur e fz hg] at this
        have h9 : xs[i]? = (List.take (rows.length * sz) cur.toList)[i]? := by rw [htake]
        rw [h9, List.getElem?_take, if_pos hi]
        simpa using this
    · rw [List.getElem?_eq_none (by omega), List.getElem?_eq_none (by omega)]
  rw [this]; exact h5

/-- An owned row as data. -/
theorem row_RD {I : Nat → Nat} {w : World} {B e sz n : Nat} {v : Value} {rows : List (List D)} {xs : List Value} (ho : ownsG w B e sz v n xs) (hx : RDs I w xs rows.flatten) (hn : rows.length = n) (hr : ∀ r ∈ rows, r.length = sz)
    (hI : ∀ g, v.ownBlock = some g → n * sz ≤ I g) : RD I w v (.sl sz rows) := by
  rcases ho.2 with ⟨hv, h0⟩ | ⟨g, cap, cur, fz, hv, hbg, hg, hnc, hcm, hcs, htake, hfz⟩
  · subst hv
    obtain rfl : rows = [] := List.eq_nil_of_length_eq_zero (by omega)
    exact RD.sl_mk (us := []) (by simp) (by simp) (by omega) (by omega) ⟨by simp, by simp, by simp⟩ (by simp)
  · subst hv
    refine RD.sl_mk hn hr hnc (by unfold maxLen at hcm; omega) hx fun _ => ⟨g, 0, rfl, fun i u hu => ?_⟩
    have hi := (List.getElem?_eq_some_iff.1 hu).1
    have hl := ho.1
    refine ⟨by have := hI g rfl; omega, ?_⟩
    rw [Nat.zero_add, cell_of_row w g i cur e fz hg]
    rw [← htake, List.getElem?_take] at hu
    split at hu
    · simpa using hu
    · cases hu

theorem rows_sz {I : Nat → Nat} {w : World} {v : Value} {sz : Nat} {rows : List (List D)} (h : RD I w v (.sl sz rows)) : ∀ r ∈ rows, r.length = sz := by
  obtain ⟨a, c, us, _, h2, _⟩ := h.sl_inv; exact h2

theorem RD_src {I : Nat → Nat} {w : World} {v : Value} {sz : Nat} {rows : List (List D)} (h : RD I w v (.sl sz rows)) : ∃ us, SrcAt w v rows.length sz us ∧ RDs I w us rows.flatten := by
  obtain ⟨a, c, us, rfl, h2, h3, h4, h5, h6⟩ := h.sl_inv
  refine ⟨us, ⟨by rw [h5.1, flatten_len rows h2], ?_⟩, h5⟩
  cases a with
  | none =>
    left
    have : rows = [] := by
      cases rows with
      | nil => rfl
      | cons r rows => obtain ⟨b, off, hb, _⟩ := h6 (by simp); cases hb
    subst this
    exact ⟨c, rfl, rfl⟩
  | some ad =>
    right
    refine ⟨ad, c, rfl, fun j u hu => ?_⟩
    obtain ⟨b, off, hb, hc⟩ := h6 (by intro e; subst e; have := h5.1; simp at this; subst this; simp at hu)
    obtain rfl := Option.some.inj hb
    rw [Addr.add_mid]
    exact (hc j u hu).2

/-- A row has grown. -/
theorem St.grow {B : Nat} {k : Cfg} {w w' : World} (h : St LL B k s w) {id n m x0 x : Nat} {v v' : Value} {g' : Nat} {ob : AObj} (hk : k.own[id]? = some (.row v n)) (hI : ∀ g, v.ownBlock = some g → k.I g = x0) (hm : 0 < m) (hx : x0 ≤ x)
    (hb : Below B w w') (hg' : v'.ownBlock = some g') (hcase : v.ownBlock = some g' ∨ (g' = w.heap.size ∧ w.heap.size < w'.heap.size)) (hblk : ∀ b, b < w.heap.size → b ≠ g' → w'.heap[b]? = w.heap[b]?)
    (hpre : v.ownBlock = some g' → ∀ q u, q < x0 → w.cell? ⟨g', q, none⟩ = some u → w'.cell? ⟨g', q, none⟩ = some u)
    (hob : Mono k w ⟨updI k.I g' x, k.own.set id (.row v' (n + m))⟩ w' → ObjOk LL B ⟨updI k.I g' x, k.own.set id (.row v' (n + m))⟩ w' ob (.row v' (n + m))) :
    Ext B k w ⟨updI k.I g' x, k.own.set id (.row v' (n + m))⟩ w' ∧ St LL B ⟨updI k.I g' x, k.own.set id (.row v' (n + m))⟩ (s.set id ob) w' := by
  have hid := (List.getElem?_eq_some_iff.1 hk).1
  have hkeep : KeepI k.I w (updI k.I g' x) w' := fun b q u hq hc => by
    have hlt := cell_none_lt hc
    by_cases e : b = g'
    · subst e
      rcases hcase with hc1 | ⟨hc1, _⟩
      · have h0 := hI b hc1
        exact ⟨by rw [updI_self]; omega, hpre hc1 q u (by omega) hc⟩
      · omega
    · exact ⟨by rw [updI_ne _ _ e]; exact hq, (World.cell?_of_block (w := w) (hblk b hlt e)).trans hc⟩
  have hle : OwnLe (.row v n) (.row v' (n + m)) := ⟨v', n + m, rfl, .inr (by omega)⟩
  have hmono : Mono k w ⟨updI k.I g' x, k.own.set id (.row v' (n + m))⟩ w' := ⟨hkeep, fun j oj hj => by
    show ∃ o', (k.own.set id (.row v' (n + m)))[j]? = some o' ∧ _
    rw [List.getElem?_set]
    by_cases e : id = j
    · subst e; rw [hk] at hj; cases hj; exact ⟨_, by simp [hid], hle⟩
    · exact ⟨oj, by simp [e, hj], OwnLe.refl _⟩⟩
  have hgB : B ≤ g' ∧ g' < w'.heap.size := by
    rcases hcase with hc | ⟨rfl, hc⟩
    · obtain ⟨l1, l2⟩ := h.lies id _ g' hk hc; exact ⟨l1, Nat.lt_of_lt_of_le l2 hb.size⟩
    · exact ⟨h.base, hc⟩
  refine h.upd hk ob rfl hle hkeep hb (fun b hbb => ?_) (fun b hlt hne => ?_) (hob hmono)
  · have : some b = some g' := by rw [← hbb]; exact hg'
    cases this
    refine ⟨?_, hgB.2, hgB.1⟩
    rcases hcase with hc | ⟨rfl, _⟩
    · exact .inl hc
    · exact .inr (Nat.le_refl _)
  · have hbg : b ≠ g' := by
      rintro rfl
      rcases hcase with hc | ⟨rfl, _⟩
      · exact hne hc
      · omega
    exact ⟨hblk b hlt hbg, updI_ne _ _ hbg⟩

theorem srcA_ok {B : Nat} {k : Cfg} {w : World} (hst : St LL B k s w) {v : Value} {y : AV} (hy : RA k w v y) {sz : Nat} {m : Nat × List AV} (h : srcA s sz y = some m) :
    ∃ us, SrcAt w v m.1 sz us ∧ RAs k w us m.2 := by
  unfold srcA at h
  split at h
  · rename_i id n sz'
    obtain ⟨⟨sz2, ds⟩, hcs, h1⟩ := bind_inv h
    obtain ⟨e, hid, hsz, hlen⟩ := vecO_inv hcs
    split at h1
    · rename_i hcc
      obtain ⟨rfl, rfl⟩ := hcc
      obtain rfl := Option.some.inj h1
      obtain ⟨⟨ad, cc, hv⟩, u, n', hku, hle, heq⟩ := hy.vec_inv
      obtain ⟨v2, n2, xs, g1, hown, hI, g4, hxs⟩ := hst.vec hid
      rw [hku] at g1; cases g1
      have hnn : n = n' := by
        rw [hlen] at g4
        exact Nat.eq_of_mul_eq_mul_right hsz g4
      subst hnn
      have hveq := heq rfl
      refine ⟨xs, ⟨hown.1, ?_⟩, hxs⟩
      rw [hveq]
      rcases hown.2 with ⟨h1, h2⟩ | ⟨g, cap, cur, h1, _⟩
      · exact .inl ⟨0, h1, h2⟩
      · exact .inr ⟨_, cap, h1, fun i x hx => hown.cells (by rw [h1]; rfl) i x hx⟩
    · cases h1
  · rename_i id N off n sz'
    obtain ⟨⟨sz2, ds⟩, hcs, h1⟩ := bind_inv h
    obtain ⟨e, hid, hsz, hlen⟩ := vecO_inv hcs
    split at h1
    · rename_i hcc
      dsimp only at hcc
      obtain ⟨rfl, rfl, hle⟩ := hcc
      obtain rfl := Option.some.inj h1
      obtain ⟨_, u, n', hku, _, heq⟩ := hy.vwn_inv
      obtain ⟨v2, n2, xs, g1, hown, hI, g4, hxs⟩ := hst.vec hid
      rw [hku] at g1; cases g1
      have hnn : N = n' := by
        rw [hlen] at g4
        exact Nat.eq_of_mul_eq_mul_right hsz g4
      subst hnn
      obtain ⟨b, c, hu0, hvv, _, _⟩ := heq rfl
      have hub : u.ownBlock = some b := by rw [hu0]; rfl
      have h5 := (hxs.drop (off * sz2)).take (n * sz2)
      have hfit : off * sz2 + n * sz2 ≤ N * sz2 := by rw [← Nat.add_mul]; exact Nat.mul_le_mul_right _ hle
      refine ⟨_, ⟨by rw [h5.1]; simp; omega, .inr ⟨_, c, hvv, fun i x hx => ?_⟩⟩, h5⟩
      rw [List.getElem?_take] at hx
      split at hx
      · rw [List.getElem?_drop] at hx
        have := hown.cells hub _ x hx
        rw [Addr.add_mid, Nat.zero_add] at this
        rw [Addr.add_mid]; exact this
      · cases hx
    · cases h1
  · rename_i id off n sz'
    obtain ⟨cs, hcs, h1⟩ := bind_inv h
    split at h1
    · rename_i hcc
      obtain ⟨rfl, hoff⟩ := hcc
      obtain rfl := Option.some.inj h1
      obtain ⟨b, c, hb, hvv, _, _⟩ := hy.win_inv
      obtain ⟨b', t', us, g1, g2, g3, gI⟩ := hst.cells (cellsO_inv hcs)
      rw [hb] at g1; cases g1
      have h5 := (g3.drop off).take (n * sz')
      refine ⟨_, ⟨by rw [h5.1]; simp; omega, .inr ⟨_, c, hvv, fun i x hx => ?_⟩⟩, h5⟩
      rw [List.getElem?_take] at hx
      split at hx
      · rw [List.getElem?_drop] at hx
        rw [Addr.add_mid, cells_at g2]; exact hx
      · cases hx
    · cases h1
  · obtain ⟨rows, hr, rfl⟩ := map_inv h
    obtain ⟨us, hsrc, hus⟩ := RD_src (hy.slA hr)
    exact ⟨us, hsrc, RDs.toA hus⟩

/-- What a row is made of is read alike in each store that agrees. -/
theorem srcA_agrees {B : Nat} {k : Cfg} {w : World} {s2 : List AObj} (hst : St LL B k s2 w) (ha : Agrees s s2) {v : Value} {y : AV} (hy : RA k w v y) {sz : Nat} {m : Nat × List AV} (h : srcA s sz y = some m) : srcA s2 sz y = some m := by
  unfold srcA at h ⊢
  split at h
  · rename_i id n sz'
    obtain ⟨⟨sz2, ds⟩, hcs, h1⟩ := bind_inv h
    obtain ⟨e, hid, hsz, hlen⟩ := vecO_inv hcs
    rw [hid] at hcs
    show (vecO n (s2[id]?)).bind _ = _
    rw [agree_get hst ha hy rfl hid, hcs]
    exact h1
  · rename_i id N off n sz'
    obtain ⟨⟨sz2, ds⟩, hcs, h1⟩ := bind_inv h
    obtain ⟨e, hid, hsz, hlen⟩ := vecO_inv hcs
    rw [hid] at hcs
    show (vecO N (s2[id]?)).bind _ = _
    rw [agree_get hst ha hy rfl hid, hcs]
    exact h1
  · rename_i id off n sz'
    obtain ⟨cs, hcs, h1⟩ := bind_inv h
    have hid := cellsO_inv hcs
    rw [hid] at hcs
    show (cellsO (s2[id]?)).bind _ = _
    rw [agree_get hst ha hy rfl hid, hcs]
    exact h1
  · exact h

theorem rowOk_inv {e sz n : Nat} {o : Option AObj} (h : rowOk e sz n o = true) : o = some (.row e sz n) := by
  unfold rowOk at h
  split at h
  · obtain ⟨rfl, rfl, rfl⟩ := of_decide_eq_true h; rfl
  · cases h
theorem roomOk_inv {n b : Nat} (h : roomOk n b = true) : n * b ≤ 140737488355328 ∧ n ≤ 9223372036854775807 := of_decide_eq_true h

/-- An append to an empty slice without room: a new block. -/
theorem run_app_fresh (w : World) (B : Nat) (t ty e : TypeId) (j : TypeInfo) (z : Value) (hu : P.underlying t = some (.slice e)) (hj : P.info? e = some j) (hz : j.zero = some z) (hzs : z.cells.size = j.size) (ad : Option Addr) (x : Value) (m : Nat) (us : List Value)
    (hsrc : SrcAt w x m j.size us) (h1s : ∀ u ∈ us, u.oneCell' = true) (hm : 0 < m) (r1 : m * j.bytes ≤ 140737488355328) (r2 : m ≤ 9223372036854775807) (hbase : B ≤ w.heap.size) :
    ∃ v' w', (Builtin.append_ #[t, t] ty #[.slice ad 0 0, x]).run P w = .ok v' w' ∧ w'.ownsRow B e j.size v' m us ∧ v'.ownBlock = some w.heap.size ∧ w.heap.size < w'.heap.size ∧ w.grownBy w' none := by
  cases ad with
  | none =>
    obtain ⟨v', w', hr, hcase⟩ := run_app2 (P := P) w B t ty e j z hu hj hz hzs _ 0 [] (ownsG.of (World.ownsRow_nil w B e j.size)) _ m us hsrc h1s (by omega) (by simpa using r1) hbase
    rcases hcase with ⟨h1, _⟩ | ⟨_, ⟨_, hownR⟩, hb, ⟨g, _, hg, _⟩ | ⟨hg, hlt, hgb⟩⟩
    · omega
    · cases hg
    · have hown := hownR (World.ownsRow_nil w B e j.size)
      rw [Nat.zero_add, List.nil_append] at hown
      exact ⟨v', w', hr, hown, hg, hlt, hgb⟩
  | some a0 =>
    obtain ⟨hl, ⟨c, _, h0⟩ | ⟨ad2, c, hq2, hc⟩⟩ := hsrc
    · omega
    · have hr := run_append_grow (P := P) w t ty e j z hu hj hz a0 0 0 [] (by simp) (by simp) ad2 m c us hl hc (by omega) (by omega) (growslice_fits (by omega) (by simpa using r1))
      have hge := grownCap_ge w (0 + m) 0 e
      have hcm : grownCap w (0 + m) 0 e ≤ maxLen := grownCap_le_maxLen w (0 + m) 0 e (by unfold maxLen; omega)
      rw [← hq2] at hr
      refine ⟨_, _, hr, ?_, rfl, by simp, ⟨rfl, rfl, rfl, by simp, fun k hk _ => Below.heap_alloc w.drew _ k (by simpa using hk)⟩⟩
      simp only [Nat.zero_add, List.nil_append, Array.empty_append] at hge hcm ⊢
      refine ⟨hl, .inr ⟨w.heap.size, _, _, rfl, hbase, heap_alloc_new w.drew _, hge, hcm, ?_, ?_⟩⟩
      · simp only [Array.size_append, List.size_toArray, size_zeroCells, hzs, hl, List.length_nil, Nat.zero_add, ← Nat.add_mul]
        congr 1
        omega
      · simp only [Array.toList_append, List.append_assoc, List.nil_append]
        rw [← hl]
        exact List.take_left

theorem ok_appN {mu : Bool} {t e : TypeId} {j : TypeInfo} {z : Value} {p q : Operand} {x y : X} (ho : o.op = .call { callee := .builtin .append, args := #[p, q], argTypes := #[t, t] }) (hu : P.underlying t = some (.slice e)) (hj : P.info? e = some j) (hz : j.zero = some z) (hzs : z.cells.size = j.size)
    (hx : cX P t p = some x) (hy : cX P t q = some y) (h : (CI.app mu e j.size j.bytes x y).sem fr s = some (d, s')) (ht : appT (x.ev fr) = 3) : AMk LL P o fr s d s' := by
  have hp : p ∈ o.op.operands := by rw [ho]; simp [Op.operands, Call.operands]
  have hq : q ∈ o.op.operands := by rw [ho]; simp [Op.operands, Call.operands]
  have hrun : ∀ (a : Act) (w : World) (v : Value) (w' : World), (Builtin.append_ #[t, t] o.type #[a.eval p, a.eval q]).run P w = .ok v w' → (execOp a.eval o).run P w = .ok (.value v) w' := fun a w v w' hr => by
    unfold execOp; rw [ho]
    simp only [resolve, invoke, builtin, Sem.run_bind, Sem.run_pure, Result.andThen_ok, List.map_toArray, List.map_cons, List.map_nil, hr]
  obtain ⟨xv, hxv, h1⟩ := bind_inv (show ((x.ev fr).bind fun v => (y.ev fr).bind fun u => semApp s mu e j.size j.bytes u v) = some (d, s') from h)
  obtain ⟨yv, hyv, h2⟩ := bind_inv h1
  -- a new row
  have fresh : ∀ (s2 : List AObj) (B : Nat) (k : Cfg) (a : Act) (w : World), RA k w (a.eval q) yv → St LL B k s2 w → ∀ (news : List (List D)) (ad : Option Addr) (dz : AV), slA j.size yv = some news → a.eval p = .slice ad 0 0 → RA k w (a.eval p) dz → news = [] → OpWp P o a w fun v w' => ∃ k', RA k' w' v dz ∧ Ext B k w k' w' ∧ St LL B k' s2 w' := fun s2 B k a w hry hst news ad dz hn hpv hdz h0 => by
    subst h0
    obtain ⟨us, hsrc, hus⟩ := RD_src (hry.slA hn)
    refine OpWp.value (v := a.eval p) (w' := w) (hrun a w _ _ ?_) ⟨k, hdz, Ext.refl B k w, hst⟩
    rw [hpv]
    obtain ⟨hl, ⟨c, hq0, _⟩ | ⟨ad', c, hq0, hc⟩⟩ := hsrc
    · rw [hq0]
      cases ad with
      | none => simp [Builtin.append_, run_underlying hu, sizeOf, typeInfo, hj, Builtin.lenOf, Builtin.firstCells]
      | some a0 => simp [Builtin.append_, run_underlying hu, sizeOf, typeInfo, hj, Builtin.lenOf, Builtin.firstCells, storeCells]
    · rw [hq0]
      cases ad with
      | none => simp [Builtin.append_, run_underlying hu, sizeOf, typeInfo, hj, Builtin.lenOf, Builtin.firstCells, loadCells, loadCellsFrom]
      | some a0 => simp [Builtin.append_, run_underlying hu, sizeOf, typeInfo, hj, Builtin.lenOf, Builtin.firstCells, storeCells, loadCells, loadCellsFrom]
  have made : ∀ (s2 : List AObj) (B : Nat) (k : Cfg) (a : Act) (w : World), RA k w (a.eval q) yv → St LL B k s2 w → ∀ (m : Nat), Holes s2 m 1 → ∀ (news : List (List D)) (ad : Option Addr), slA j.size yv = some news → a.eval p = .slice ad 0 0 → news ≠ [] → roomOk news.length j.bytes = true → OpWp P o a w fun v w' => ∃ k', RA k' w' v (.tsl m j.size news) ∧ Ext B k w k' w' ∧ St LL B k' (fill s2 m [.row e j.size news.length]) w' := fun s2 B k a w hry hst m hm1 news ad hn hpv h0 hroom => by
    obtain ⟨r1, r2⟩ := roomOk_inv hroom
    have hm : 0 < news.length := by
      rcases Nat.eq_zero_or_pos news.length with e | e
      · exact absurd (List.eq_nil_of_length_eq_zero e) h0
      · exact e
    obtain ⟨us, hsrc, hus⟩ := RD_src (hry.slA hn)
    have hrows := rows_sz (hry.slA hn)
    have key := run_app_fresh (P := P) w B t o.type e j z hu hj hz hzs ad _ news.length us hsrc hus.2.1 hm r1 r2 hst.base
    obtain ⟨v', w', hr, hown, hg, hlt, hgb⟩ := key
    have hbw : Below w.heap.size w w' := ⟨hgb.os, hgb.tape, hgb.output, hgb.size, fun k hk => hgb.block k hk (by simp)⟩
    have hI : ∀ b, b < w.heap.size → updI k.I w.heap.size (news.length * j.size) b = k.I b := fun b hb => updI_ne _ _ (by omega)
    obtain ⟨he, hs2⟩ := hst.newAt hbw hI hm1 (.row v' news.length) (.row e j.size news.length) (fun b hb => by rw [show (Own.row v' news.length).block = some w.heap.size from hg] at hb; cases hb; exact ⟨Nat.le_refl _, hlt⟩)
      fun _ => ⟨rfl, ⟨us, ownsG.of hown⟩, fun g hgg => by rw [hg] at hgg; cases hgg; exact updI_self ..⟩
    refine OpWp.value (hrun a _ _ _ (by rw [hpv]; exact hr)) ⟨_, .tsl ?_ ⟨v', news.length, fill_own hst hm1 _, Nat.le_refl _, fun _ => rfl⟩, he, hs2⟩
    refine row_RD (ownsG.of hown) (hus.mono he.keep) rfl hrows fun g hgg => ?_
    rw [hg] at hgg; cases hgg
    exact Nat.le_of_eq (updI_self ..).symm
  have madeV : ∀ (us0 : Nat × List AV), srcA s j.size yv = some us0 → 0 < us0.1 → us0.2.length = us0.1 * j.size → roomOk us0.1 j.bytes = true → (∀ (k : Cfg) (w : World) (v : Value), RA k w v xv → ∃ ad, v = .slice ad 0 0) → AMk LL P o fr s (.vec s.length us0.1 j.size) (s ++ [.vec e j.size us0.2]) := fun us0 hsrc0 hm c3 hroom hnil => by
    obtain ⟨r1, r2⟩ := roomOk_inv hroom
    refine ⟨[.vec e j.size us0.2], rfl, fun s2 hag hn => ?_⟩
    intro B k a w hops hst
    have hrx := ev_ok hops hp hx hxv
    have hry := ev_ok hops hq hy hyv
    obtain ⟨ad, hpv⟩ := hnil k w _ hrx
    obtain ⟨us, hsrc, hus⟩ := srcA_ok hst hry (srcA_agrees hst hag hry hsrc0)
    obtain ⟨v', w', hr, hown, hg, hlt, hgb⟩ := run_app_fresh (P := P) w B t o.type e j z hu hj hz hzs ad _ us0.1 us hsrc hus.2.1 hm r1 r2 hst.base
    have hbw : Below w.heap.size w w' := ⟨hgb.os, hgb.tape, hgb.output, hgb.size, fun k hk => hgb.block k hk (by simp)⟩
    have hI : ∀ b, b < w.heap.size → updI k.I w.heap.size 0 b = k.I b := fun b hb => updI_ne _ _ (by omega)
    have hob : ∀ b, (Own.row v' us0.1).block = some b → w.heap.size ≤ b ∧ b < w'.heap.size := fun b hb => by rw [show (Own.row v' us0.1).block = some w.heap.size from hg] at hb; cases hb; exact ⟨Nat.le_refl _, hlt⟩
    obtain ⟨he, hs2⟩ := hst.newAt hbw hI hn (.row v' us0.1) (.vec e j.size us0.2) hob fun hm => ⟨us, hown, fun g hgg => by rw [hg] at hgg; cases hgg; exact updI_self .., c3, hus.mono hm⟩
    exact OpWp.value (hrun a _ _ _ (by rw [hpv]; exact hr)) ⟨_, .vec (ownsRow_form hown) ⟨v', us0.1, fill_own hst hn _, Nat.le_refl _, fun _ => rfl⟩, he, hs2⟩
  unfold semApp at h2
  split at h2
  · rw [hxv] at ht; cases ht
  · rename_i sz0
    split at h2
    · obtain ⟨us0, hsrc0, h3⟩ := bind_inv h2
      split at h3
      · rename_i hcc
        obtain ⟨⟨rfl, hm, c3⟩, hroom⟩ := hcc
        obtain ⟨rfl, rfl⟩ := Prod.mk.inj (Option.some.inj h3)
        exact madeV us0 hsrc0 hm c3 hroom fun k w v hv => ⟨none, hv.nil_inv⟩
      · cases h3
    · obtain ⟨news, hn, h3⟩ := bind_inv h2
      split at h3
      · rename_i h0
        obtain ⟨rfl, rfl⟩ := Prod.mk.inj (Option.some.inj h3)
        refine ⟨[], (List.append_nil _).symm, fun s2 _ _ => ?_⟩
        rw [fill_nil]
        intro B k a w hops hst
        have hrx := ev_ok hops hp hx hxv
        exact fresh s2 B k a w (ev_ok hops hq hy hyv) hst news none _ hn hrx.nil_inv hrx h0
      · rename_i h0
        split at h3
        · rename_i hcc
          obtain ⟨rfl, hroom⟩ := hcc
          obtain ⟨rfl, rfl⟩ := Prod.mk.inj (Option.some.inj h3)
          refine ⟨_, rfl, fun s2 _ hm => ?_⟩
          intro B k a w hops hst
          have hrx := ev_ok hops hp hx hxv
          exact made s2 B k a w (ev_ok hops hq hy hyv) hst _ hm news none hn hrx.nil_inv h0 hroom
        · cases h3
  · rename_i sz0
    split at h2
    · obtain ⟨us0, hsrc0, h3⟩ := bind_inv h2
      split at h3
      · rename_i hcc
        obtain ⟨⟨rfl, hm, c3⟩, hroom⟩ := hcc
        obtain ⟨rfl, rfl⟩ := Prod.mk.inj (Option.some.inj h3)
        exact madeV us0 hsrc0 hm c3 hroom fun k w v hv => hv.emp_inv
      · cases h3
    · obtain ⟨news, hn, h3⟩ := bind_inv h2
      split at h3
      · rename_i h0
        obtain ⟨rfl, rfl⟩ := Prod.mk.inj (Option.some.inj h3)
        refine ⟨[], (List.append_nil _).symm, fun s2 _ _ => ?_⟩
        rw [fill_nil]
        intro B k a w hops hst
        have hrx := ev_ok hops hp hx hxv
        obtain ⟨ad, hpv⟩ := hrx.emp_inv
        exact fresh s2 B k a w (ev_ok hops hq hy hyv) hst news ad _ hn hpv hrx h0
      · rename_i h0
        split at h3
        · rename_i hcc
          obtain ⟨rfl, hroom⟩ := hcc
          obtain ⟨rfl, rfl⟩ := Prod.mk.inj (Option.some.inj h3)
          refine ⟨_, rfl, fun s2 _ hm => ?_⟩
          intro B k a w hops hst
          have hrx := ev_ok hops hp hx hxv
          obtain ⟨ad, hpv⟩ := hrx.emp_inv
          exact made s2 B k a w (ev_ok hops hq hy hyv) hst _ hm news ad hn hpv h0 hroom
        · cases h3
  · rw [hxv] at ht; cases ht
  · rw [hxv] at ht; cases ht
  · cases h2

theorem ok_app {mu : Bool} {t e : TypeId} {j : TypeInfo} {z : Value} {p q : Operand} {x y : X} (ho : o.op = .call { callee := .builtin .append, args := #[p, q], argTypes := #[t, t] }) (hu : P.underlying t = some (.slice e)) (hj : P.info? e = some j) (hz : j.zero = some z) (hzs : z.cells.size = j.size)
    (hx : cX P t p = some x) (hy : cX P t q = some y) (h : (CI.app mu e j.size j.bytes x y).sem fr s = some (d, s')) : AOp LL P o fr s d s' := by
  have hp : p ∈ o.op.operands := by rw [ho]; simp [Op.operands, Call.operands]
  have hq : q ∈ o.op.operands := by rw [ho]; simp [Op.operands, Call.operands]
  have hrun : ∀ (a : Act) (w : World) (v : Value) (w' : World), (Builtin.append_ #[t, t] o.type #[a.eval p, a.eval q]).run P w = .ok v w' → (execOp a.eval o).run P w = .ok (.value v) w' := fun a w v w' hr => by
    unfold execOp; rw [ho]
    simp only [resolve, invoke, builtin, Sem.run_bind, Sem.run_pure, Result.andThen_ok, List.map_toArray, List.map_cons, List.map_nil, hr]
  by_cases hN : appT (x.ev fr) = 3
  · exact (ok_appN ho hu hj hz hzs hx hy h hN).op
  obtain ⟨xv, hxv, h1⟩ := bind_inv (show ((x.ev fr).bind fun v => (y.ev fr).bind fun u => semApp s mu e j.size j.bytes u v) = some (d, s') from h)
  obtain ⟨yv, hyv, h2⟩ := bind_inv h1
  intro B k a w hops hst
  have hrx := ev_ok hops hp hx hxv
  have hry := ev_ok hops hq hy hyv
  unfold semApp at h2
  split at h2
  · rename_i id n sz'
    obtain ⟨us0, hsrc0, h3⟩ := bind_inv h2
    obtain ⟨⟨sz2, ds⟩, hcs, h4⟩ := bind_inv h3
    obtain ⟨e', hid, hsz, hlen⟩ := vecO_inv hcs
    split at h4
    · rename_i hcc
      obtain ⟨⟨rfl, c1, c2, c3⟩, c4⟩ := hcc
      dsimp only at c1
      subst c1
      have heo : eOf s[id]? = e' := by rw [hid]; rfl
      rw [heo] at c2; subst c2
      obtain ⟨r1, r2⟩ := roomOk_inv c4
      obtain ⟨rfl, rfl⟩ := Prod.mk.inj (Option.some.inj h4)
      obtain ⟨⟨ad, cc, hv⟩, u, n', hku, hle, heq⟩ := hrx.vec_inv
      obtain ⟨v, n2, xs, g1, hown, hI, g4, hxs⟩ := hst.vec hid
      rw [hku] at g1; cases g1
      have hnn : n = n' := by
        rw [hlen] at g4
        exact Nat.eq_of_mul_eq_mul_right hsz g4
      subst hnn
      have hveq := heq rfl
      obtain ⟨us, hsrc, hus⟩ := srcA_ok hst hry hsrc0
      obtain ⟨v', w', hr, hcase⟩ := run_app2 (P := P) w B t o.type e' j z hu hj hz hzs _ n xs (ownsG.of hown) _ us0.1 us hsrc hus.2.1 r2 r1 hst.base
      rcases hcase with ⟨h0, rfl, rfl⟩ | ⟨hm, ⟨_, hownR⟩, hb, hcase⟩
      · have hnil : us0.2 = [] := List.eq_nil_of_length_eq_zero (by rw [c3, h0]; simp)
        rw [h0, hnil]
        refine OpWp.value (hrun a _ _ _ (by rw [hveq]; exact hr)) ⟨k, .vec ⟨ad, cc, by rw [← hveq]; simpa using hv⟩ ⟨v', n, hku, by simp, fun _ => rfl⟩, Ext.refl B k _, ?_⟩
        have : s.set id (.vec e' j.size (ds ++ [])) = s := by
          obtain ⟨h10, h11⟩ := List.getElem?_eq_some_iff.1 hid
          rw [List.append_nil, ← h11]; exact List.set_getElem_self h10
        rw [this]; exact hst
      · have hown' := hownR hown
        have hrest : ∃ g', v'.ownBlock = some g' ∧ (u.ownBlock = some g' ∨ (g' = w.heap.size ∧ w.heap.size < w'.heap.size)) ∧ (∀ b, b < w.heap.size → b ≠ g' → w'.heap[b]? = w.heap[b]?) := by
          rcases hcase with ⟨g, hg1, hg2, hgb⟩ | ⟨hg, hlt, hgb⟩
          · exact ⟨g, hg1, .inl hg2, fun b hb hne => hgb.block b hb (by simpa using hne)⟩
          · exact ⟨w.heap.size, hg, .inr ⟨rfl, hlt⟩, fun b hb _ => hgb.block b hb (by simp)⟩
        obtain ⟨g', hg', hcase', hblk⟩ := hrest
        obtain ⟨he, hs2⟩ := hst.grow (x0 := 0) (x := 0) (ob := .vec e' j.size (ds ++ us0.2)) hku hI hm (Nat.le_refl _) hb hg' hcase' hblk (fun _ q u hq _ => by omega)
          fun hmono => ⟨xs ++ us, hown', fun g hg => by rw [hg'] at hg; cases hg; exact updI_self .., by rw [List.length_append, hlen, c3, Nat.add_mul], (hxs.mono hmono).append (hus.mono hmono)⟩
        have hidlt := (List.getElem?_eq_some_iff.1 hku).1
        exact OpWp.value (hrun a _ _ _ (by rw [hveq]; exact hr)) ⟨_, .vec (ownsRow_form hown') ⟨v', n + us0.1, by simp [hidlt], Nat.le_refl _, fun _ => rfl⟩, he, hs2⟩
    · cases h4
  · exact absurd (by rw [hxv]; rfl) hN
  · exact absurd (by rw [hxv]; rfl) hN
  · rename_i id sz' rows
    obtain ⟨news, hn, h3⟩ := bind_inv h2
    split at h3
    · rename_i hcc
      obtain ⟨⟨rfl, hrow⟩, hroom⟩ := hcc
      obtain ⟨hby, h63⟩ := roomOk_inv hroom
      have hid := rowOk_inv hrow
      obtain ⟨rfl, rfl⟩ := Prod.mk.inj (Option.some.inj h3)
      obtain ⟨hv, u, n', hku, hle, heq⟩ := hrx.tsl_inv
      obtain ⟨v, xs, hkv, hown, hI⟩ := hst.row hid
      rw [hku] at hkv; cases hkv
      have hveq := heq rfl
      rw [hveq] at hv
      obtain ⟨us, hsrc, hus⟩ := RD_src (hry.slA hn)
      have hnrows := rows_sz (hry.slA hn)
      have hrrows := rows_sz hv
      have hxs := row_cells hv hown
      obtain ⟨v', w', hr, hcase⟩ := run_app2 (P := P) w B t o.type e j z hu hj hz hzs _ rows.length xs hown _ news.length us hsrc hus.2.1 h63 hby hst.base
      rcases hcase with ⟨h0, rfl, rfl⟩ | ⟨hm, ⟨hown', _⟩, hb, hcase⟩
      · have : news = [] := List.eq_nil_of_length_eq_zero h0
        subst this
        refine OpWp.value (hrun a _ _ _ (by rw [hveq]; exact hr)) ⟨k, .tsl (by simpa using hv) ⟨v', rows.length, hku, by simp, fun _ => rfl⟩, Ext.refl B k _, ?_⟩
        simp only [List.length_nil, Nat.add_zero]
        have : s.set id (.row e j.size rows.length) = s := by
          obtain ⟨h10, h11⟩ := List.getElem?_eq_some_iff.1 hid
          rw [← h11]; exact List.set_getElem_self h10
        rw [this]; exact hst
      · have hrest : ∃ g', v'.ownBlock = some g' ∧ (u.ownBlock = some g' ∨ (g' = w.heap.size ∧ w.heap.size < w'.heap.size)) ∧ (∀ b, b < w.heap.size → b ≠ g' → w'.heap[b]? = w.heap[b]?) ∧ (u.ownBlock = some g' → ∀ q x, q < rows.length * j.size → w.cell? ⟨g', q, none⟩ = some x → w'.cell? ⟨g', q, none⟩ = some x) := by
          rcases hcase with ⟨g, hg1, hg2, hgb⟩ | ⟨hg, hlt, hgb⟩
          · refine ⟨g, hg1, .inl hg2, fun b hb hne => hgb.block b hb (by simpa using hne), fun _ q x hq hc => ?_⟩
            have e1 := hown.cells hg2
            have e2 := hown'.cells hg1
            have hl := hown.1
            have hxq : xs[q]? = some xs[q] := List.getElem?_eq_getElem (by omega)
            have a1 := e1 q _ hxq
            rw [Addr.add_mid, Nat.zero_add] at a1
            rw [a1] at hc
            obtain rfl := Option.some.inj hc
            have a2 := e2 q xs[q] (by rw [List.getElem?_append_left (by omega)]; exact hxq)
            rw [Addr.add_mid, Nat.zero_add] at a2
            exact a2
          · refine ⟨w.heap.size, hg, .inr ⟨rfl, hlt⟩, fun b hb _ => hgb.block b hb (by simp), fun hg2 => ?_⟩
            have := (hst.lies id _ _ hku hg2).2; omega
        obtain ⟨g', hg', hcase', hblk, hpre⟩ := hrest
        obtain ⟨he, hs2⟩ := hst.grow (x := (rows.length + news.length) * j.size) (ob := .row e j.size (rows.length + news.length)) hku hI hm (by rw [Nat.add_mul]; omega) hb hg' hcase' hblk hpre
          fun _ => ⟨rfl, ⟨_, hown'⟩, fun g hg => by rw [hg'] at hg; cases hg; exact updI_self ..⟩
        have hidlt := (List.getElem?_eq_some_iff.1 hku).1
        refine OpWp.value (hrun a _ _ _ (by rw [hveq]; exact hr)) ⟨_, .tsl ?_ ⟨v', rows.length + news.length, by simp [hidlt], by simp, fun _ => rfl⟩, he, hs2⟩
        refine row_RD hown' (by rw [List.flatten_append]; exact (hxs.mono he.keep).append (hus.mono he.keep)) (by simp) (fun r hr => ?_) fun g hgg => ?_
        · rcases List.mem_append.1 hr with hr | hr
          · exact hrrows r hr
          · exact hnrows r hr
        · rw [hg'] at hgg; cases hgg
          exact Nat.le_of_eq (updI_self ..).symm
    · cases h3
  · rename_i id N off m sz'
    obtain ⟨us0, hsrc0, h3⟩ := bind_inv h2
    obtain ⟨⟨sz2, ds⟩, hcs, h4⟩ := bind_inv h3
    obtain ⟨e', hid, hsz, hlen⟩ := vecO_inv hcs
    split at h4
    · rename_i hcc
      obtain ⟨⟨⟨rfl, c1, c2, c3⟩, c5, c6⟩, c4⟩ := hcc
      dsimp only at c1 h4
      subst c1; subst c5
      have heo : eOf s[id]? = e' := by rw [hid]; rfl
      rw [heo] at c2; subst c2
      obtain ⟨r1, r2⟩ := roomOk_inv c4
      have h5 := Option.some.inj h4
      obtain ⟨_, u, n', hku, hle, heq⟩ := hrx.vwn_inv
      obtain ⟨v, n2, xs, g1, hown, hI, g4, hxs⟩ := hst.vec hid
      rw [hku] at g1; cases g1
      have hnn : N = n' := by
        rw [hlen] at g4
        exact Nat.eq_of_mul_eq_mul_right hsz g4
      subst hnn
      obtain ⟨b, c, hu0, hv, hmc, hcm⟩ := heq rfl
      have hub : u.ownBlock = some b := by rw [hu0]; rfl
      rw [Nat.zero_mul] at hv
      obtain ⟨us, hsrc, hus⟩ := srcA_ok hst hry hsrc0
      have hmN : m * j.size ≤ N * j.size := Nat.mul_le_mul_right _ c6
      obtain ⟨u', xs', cap, cur, q1, q2, q3, q4, q5, q6, q7, q8, q9, q10, q11, q12⟩ := vec_at hst hid hsz hlen ⟨u, N, hku, Nat.le_refl _, fun _ => hub⟩
      rw [hku] at q1; cases q1
      have hNc : N * j.size ≤ cap * j.size := Nat.mul_le_mul_right _ q6
      have hcc2 : 0 + c = cap := by rw [hu0] at q3; injection q3
      have hcap : c = cap := by omega
      have hk : us.length = us0.1 * j.size := hsrc.1
      split at h5
      · -- in place
        rename_i hin
        obtain ⟨rfl, rfl⟩ := Prod.mk.inj h5
        have hfit : (m + us0.1) * j.size ≤ N * j.size := Nat.mul_le_mul_right _ hin
        rw [Nat.add_mul] at hfit
        obtain ⟨cur', hh, hcur, he, hs2⟩ := vec_put hst hid hsz hlen ⟨u, N, hku, Nat.le_refl _, fun _ => hub⟩ hus (off := m * j.size) (by omega)
        rw [hk] at he hs2
        by_cases hm0 : us0.1 = 0
        · have hnil : us0.2 = [] := List.eq_nil_of_length_eq_zero (by rw [c3, hm0]; simp)
          have hr : (Builtin.append_ #[t, t] o.type #[.slice (some ⟨b, 0, none⟩) m c, a.eval q]).run P w = .ok (.slice (some ⟨b, 0, none⟩) m c) w := by
            obtain ⟨hl, ⟨c', hq0, _⟩ | ⟨ad', c', hq0, hc⟩⟩ := hsrc
            · rw [hq0]
              simp [Builtin.append_, run_underlying hu, sizeOf, typeInfo, hj, Builtin.lenOf, Builtin.firstCells, hmc, storeCells]
            · rw [hq0, hm0]
              simp [Builtin.append_, run_underlying hu, sizeOf, typeInfo, hj, Builtin.lenOf, Builtin.firstCells, hmc, storeCells, loadCells, loadCellsFrom]
          refine OpWp.value (hrun a _ _ _ (by rw [hv]; exact hr)) ⟨k, ?_, Ext.refl B k _, ?_⟩
          · rw [hm0, Nat.add_zero]
            exact .vwn ⟨_, _, rfl⟩ ⟨u, N, hku, Nat.le_refl _, fun _ => ⟨b, c, hu0, by rw [Nat.zero_mul], hmc, hcm⟩⟩
          · have : s.set id (.vec e' j.size (ds.take (m * j.size) ++ us0.2 ++ ds.drop (m * j.size + us0.1 * j.size))) = s := by
              obtain ⟨h10, h11⟩ := List.getElem?_eq_some_iff.1 hid
              rw [hnil, hm0, Nat.zero_mul, Nat.add_zero, List.append_nil, List.take_append_drop, ← h11]; exact List.set_getElem_self h10
            rw [this]; exact hst
        · obtain ⟨hl, ⟨c', _, h0⟩ | ⟨ad', c', hq0, hc⟩⟩ := hsrc
          · exact absurd h0 hm0
          · have hr := run_append_room (P := P) w t o.type e' j hu hj b m c cur' hh ad' us0.1 c' us hl hc hus.2.1 (by omega) (by rw [hk]; omega)
            rw [hk] at hr
            refine OpWp.value (hrun a _ _ _ (by rw [hv, hq0]; exact hr)) ⟨k, ?_, he, hs2⟩
            exact .vwn ⟨_, _, rfl⟩ ⟨u, N, hku, Nat.le_refl _, fun _ => ⟨b, c, hu0, by rw [Nat.zero_mul], by omega, hcm⟩⟩
      · -- beyond the row's elements
        rename_i hout
        obtain ⟨rfl, rfl⟩ := Prod.mk.inj h5
        have hkpos : 0 < us0.1 := by omega
        have hxl : xs.length = N * j.size := hown.1
        have hxx : xs' = xs := by
          rw [← q9]
          rcases hown.2 with ⟨hn, _⟩ | ⟨g, cap', cur', hg1, _, hg2, _, _, _, hg3⟩
          · rw [hu0] at hn; cases hn
          · rw [hu0] at hg1; injection hg1 with e1 _ _
            injection e1 with e1; injection e1 with e1 _ _
            subst e1
            rw [q5] at hg2
            have e2 := Option.some.inj hg2
            injection e2 with e3 _ _
            rw [e3]; exact hg3
        have howns : w.ownsRow B e' j.size (.slice (some ⟨b, 0, none⟩) m c) m (xs.take (m * j.size)) := by
          refine ⟨by rw [List.length_take]; omega, .inr ⟨b, c, cur, rfl, q4, q5, by omega, by omega, by rw [hcap]; exact q8, ?_⟩⟩
          rw [← hxx, ← q9, List.take_take, Nat.min_eq_left hmN]
        obtain ⟨v', w', hr, hcase⟩ := run_app2 (P := P) w B t o.type e' j z hu hj hz hzs _ m (xs.take (m * j.size)) (ownsG.of howns) _ us0.1 us hsrc hus.2.1 r2 r1 hst.base
        rcases hcase with ⟨h0, _⟩ | ⟨_, ⟨_, hownR⟩, hb, hcase⟩
        · omega
        · have hown' := hownR howns
          have hrest : ∃ g', v'.ownBlock = some g' ∧ (u.ownBlock = some g' ∨ (g' = w.heap.size ∧ w.heap.size < w'.heap.size)) ∧ (∀ b, b < w.heap.size → b ≠ g' → w'.heap[b]? = w.heap[b]?) := by
            rcases hcase with ⟨g, hg1, hg2, hgb⟩ | ⟨hg, hlt, hgb⟩
            · refine ⟨g, hg1, .inl ?_, fun b hb hne => hgb.block b hb (by simpa using hne)⟩
              rw [hub]; exact hg2
            · exact ⟨w.heap.size, hg, .inr ⟨rfl, hlt⟩, fun b hb _ => hgb.block b hb (by simp)⟩
          obtain ⟨g', hg', hcase', hblk⟩ := hrest
          obtain ⟨p, hp2⟩ : ∃ p, m + us0.1 = N + p := ⟨m + us0.1 - N, by omega⟩
          have hppos : 0 < p := by omega
          rw [hp2] at hown' ⊢
          have hdl : (ds.take (m * j.size)).length = m * j.size := by rw [List.length_take, hlen]; omega
          obtain ⟨he, hs2⟩ := hst.grow (x0 := 0) (x := 0) (ob := .vec e' j.size (ds.take (m * j.size) ++ us0.2)) hku hI hppos (Nat.le_refl _) hb hg' hcase' hblk (fun _ q u hq _ => by omega)
            fun hmono => ⟨xs.take (m * j.size) ++ us, hown', fun g hg => by rw [hg'] at hg; cases hg; exact updI_self .., by rw [List.length_append, hdl, c3, ← Nat.add_mul, hp2], ((hxs.mono hmono).take _).append (hus.mono hmono)⟩
          have hidlt := (List.getElem?_eq_some_iff.1 hku).1
          exact OpWp.value (hrun a _ _ _ (by rw [hv]; exact hr)) ⟨_, .vec (ownsRow_form hown') ⟨v', N + p, by simp [hidlt], Nat.le_refl _, fun _ => rfl⟩, he, hs2⟩
    · cases h4
  · cases h2
end
end Go.Bb
