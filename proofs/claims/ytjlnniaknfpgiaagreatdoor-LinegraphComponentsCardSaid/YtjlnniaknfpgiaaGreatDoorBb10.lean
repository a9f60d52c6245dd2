/-
  Part Bb10 of this claim's proof. Joined by merge.py from the texts of wip/tpl.
-/
import Derived.Test.YtjlnniaknfpgiaaGreatDoorBb9
import Derived.Lib.ConvBytes
import Derived.Laws.BytesArg
set_option linter.unusedVariables false
set_option linter.unusedSimpArgs false
set_option linter.unnecessarySimpa false
set_option linter.unusedVariables false
namespace Go.Bb
open Go Go.RowKit Go.Ab Go.Proofs.Lg

section
variable {LL : Nat → Code → CC → Prop} {P : Program} {o : Oper} {fr : Fr} {s s' : List AObj} {d : AV}

theorem made_ok {B : Nat} {k : Cfg} {w : World} (hst : St LL B k s w) {p : Nat} (hp : Holes s p 1) {x : List AObj} {mu : Bool} {e sz n cap : Nat} {cur : Array Value} {cs : List AV} (hcs : RAs k w (cur.toList.take (n * sz)) cs) (hn : cs.length = n * sz) (hsz : cur.size = cap * sz) (hnc : n ≤ cap) (hcm : cap ≤ 9223372036854775807)
    (h : (if mu then some (AV.vec p n sz, [AObj.vec e sz cs]) else (toLs cs).map fun ds => (.tsl p sz (chunk sz n ds), [.row e sz n])) = some (d, x)) :
    ∃ k', RA k' (w.alloc (.cells cur e)) (.slice (some ⟨w.heap.size, 0, none⟩) n cap) d ∧ Ext B k w k' (w.alloc (.cells cur e)) ∧ St LL B k' (fill s p x) (w.alloc (.cells cur e)) := by
  have hb : Below w.heap.size w (w.alloc (.cells cur e)) := (Below.refl _ _).alloc (Nat.le_refl _) _
  have hh : (w.alloc (.cells cur e)).heap[w.heap.size]? = some (.cells cur e (0, 0)) := heap_alloc_new w _
  have hlt : w.heap.size < (w.alloc (.cells cur e)).heap.size := (Array.getElem?_eq_some_iff.1 hh).1
  have hown : (w.alloc (.cells cur e)).ownsRow B e sz (.slice (some ⟨w.heap.size, 0, none⟩) n cap) n (cur.toList.take (n * sz)) :=
    ⟨by rw [hcs.1, hn], .inr ⟨w.heap.size, cap, cur, rfl, hst.base, hh, hnc, by unfold maxLen; exact hcm, hsz, rfl⟩⟩
  have hI : ∀ x b, b < w.heap.size → updI k.I w.heap.size x b = k.I b := fun x b hb => updI_ne _ _ (by omega)
  have hob : ∀ b, (Own.row (.slice (some ⟨w.heap.size, 0, none⟩) n cap) n).block = some b → w.heap.size ≤ b ∧ b < (w.alloc (.cells cur e)).heap.size := fun b hb => by cases hb; exact ⟨Nat.le_refl _, hlt⟩
  cases mu with
  | true =>
    obtain ⟨rfl, rfl⟩ := Prod.mk.inj (Option.some.inj (by simpa using h))
    obtain ⟨he, hs2⟩ := hst.newAt hb (hI 0) hp _ (.vec e sz cs) hob fun hm => ⟨_, hown, (fun g hg => by cases hg; exact updI_self ..), hn, hcs.mono hm⟩
    exact ⟨_, .vec ⟨_, _, rfl⟩ ⟨_, n, fill_own hst hp _, Nat.le_refl _, fun _ => rfl⟩, he, hs2⟩
  | false =>
    simp only [Bool.false_eq_true, if_false] at h
    obtain ⟨ds, hds, h1⟩ := map_inv h
    obtain ⟨rfl, rfl⟩ := Prod.mk.inj h1
    obtain ⟨he, hs2⟩ := hst.newAt hb (hI (n * sz)) hp _ (.row e sz n) hob fun _ => ⟨rfl, ⟨_, ownsG.of hown⟩, fun g hg => by cases hg; exact updI_self ..⟩
    have hl := (toLs_get hds).1
    obtain ⟨hf1, hf2⟩ := chunk_flat sz n ds (by omega)
    refine ⟨_, .tsl ?_ ⟨_, n, fill_own hst hp _, by rw [chunk_len]; exact Nat.le_refl _, fun _ => rfl⟩, he, hs2⟩
    refine row_RD (ownsG.of hown) (by rw [hf1]; exact (hcs.toLs hds).mono he.keep) (chunk_len sz n ds) hf2 fun g hg => ?_
    cases hg
    exact Nat.le_of_eq (updI_self ..).symm

/-- A made row's form. -/
theorem made_form {s s' : List AObj} {mu : Bool} {v d : AV} {A B : AObj} {α : Type} {o : Option α} {f : α → AV} (h : (if mu then some (v, s ++ [A]) else o.map fun ds => (f ds, s ++ [B])) = some (d, s')) : ∃ x, x.length = 1 ∧ s' = s ++ x ∧ (if mu then some (v, [A]) else o.map fun ds => (f ds, [B])) = some (d, x) := by
  cases mu with
  | true =>
    obtain ⟨rfl, rfl⟩ := Prod.mk.inj (Option.some.inj (by simpa using h))
    exact ⟨[A], rfl, rfl, rfl⟩
  | false =>
    simp only [Bool.false_eq_true, if_false] at h
    obtain ⟨ds, hds, h1⟩ := map_inv h
    obtain ⟨rfl, rfl⟩ := Prod.mk.inj h1
    exact ⟨[B], rfl, rfl, by simp [hds]⟩

theorem frozen_ok {B : Nat} {k : Cfg} {w : World} (hst : St LL B k s w) {e sz n cap : Nat} {cur : Array Value} {cs : List AV} {ds : List D} (hcs : RAs k w (cur.toList.take (n * sz)) cs) (hn : cs.length = n * sz) (hsz : cur.size = cap * sz) (hnc : n ≤ cap) (hcm : cap ≤ 9223372036854775807)
    (hds : toLs cs = some ds) :
    ∃ k', RA k' (w.alloc (.cells cur e)) (.slice (some ⟨w.heap.size, 0, none⟩) n cap) (.d (.sl sz (chunk sz n ds))) ∧ Ext B k w k' (w.alloc (.cells cur e)) ∧ St LL B k' s (w.alloc (.cells cur e)) := by
  have hb : Below w.heap.size w (w.alloc (.cells cur e)) := (Below.refl _ _).alloc (Nat.le_refl _) _
  have hh : (w.alloc (.cells cur e)).heap[w.heap.size]? = some (.cells cur e (0, 0)) := heap_alloc_new w _
  have hown : (w.alloc (.cells cur e)).ownsRow B e sz (.slice (some ⟨w.heap.size, 0, none⟩) n cap) n (cur.toList.take (n * sz)) :=
    ⟨by rw [hcs.1, hn], .inr ⟨w.heap.size, cap, cur, rfl, hst.base, hh, hnc, by unfold maxLen; exact hcm, hsz, rfl⟩⟩
  have he := Ext.called (k := k) hst.base hb
  have hl := (toLs_get hds).1
  obtain ⟨hf1, hf2⟩ := chunk_flat sz n ds (by omega)
  refine ⟨_, .d ?_, he, hst.called hb⟩
  refine row_RD (ownsG.of hown) (by rw [hf1]; exact (hcs.toLs hds).mono he.keep) (chunk_len sz n ds) hf2 fun g hg => ?_
  cases hg
  have hb2 : bigI k.I w.heap.size (w.alloc (.cells cur e)) w.heap.size = cur.size := by
    unfold bigI cellsIn
    rw [if_neg (Nat.lt_irrefl _), hh]
  show n * sz ≤ bigI k.I w.heap.size (w.alloc (.cells cur e)) w.heap.size
  rw [hb2, hsz]; exact Nat.mul_le_mul_right _ hnc

/-- A variable that is never written again. -/
theorem ok_bxf {t : TypeId} {p : Operand} {x : X} (ho : o.op = .box t p) (hx : cX P t p = some x) (h : (CI.bxf x).sem fr s = some (d, s')) : AOp LL P o fr s d s' := by
  have hp : p ∈ o.op.operands := by rw [ho]; simp [Op.operands]
  obtain ⟨h2, rfl⟩ := ret_inv h
  obtain ⟨cs, hcs, hh⟩ := bind_inv (show (((x.ev fr).bind AV.cells).bind fun cs => (toLs cs).map fun ds => AV.d (.ref ds)) = some d from h2)
  obtain ⟨ds, hds, rfl⟩ := map_inv (show ((toLs cs).map fun ds => AV.d (.ref ds)) = some d from hh)
  obtain ⟨v, hv, hc⟩ := bind_inv hcs
  intro B k a w hops hst
  have hcl := (ev_ok hops hp hx hv).cells hc
  generalize hcells : (a.eval p).cells = cells at hcl
  have hb : Below w.heap.size w (w.alloc (.cells cells t)) := (Below.refl _ _).alloc (Nat.le_refl _) _
  have hh : (w.alloc (.cells cells t)).heap[w.heap.size]? = some (.cells cells t (0, 0)) := heap_alloc_new w _
  have he := Ext.called (k := k) hst.base hb
  have hrd := (hcl.toLs hds).mono he.keep
  have hb2 : bigI k.I w.heap.size (w.alloc (.cells cells t)) w.heap.size = cells.size := by
    unfold bigI cellsIn
    rw [if_neg (Nat.lt_irrefl _), hh]
  refine OpWp.value ?_ ⟨_, .d (.ref w.heap.size 0 cells.toList ds hrd.1 hrd.2.1 (fun i u hu => ⟨?_, ?_⟩) hrd.2.2), he, hst.called hb⟩
  · unfold execOp; rw [ho]
    refine run_value ?_
    simp only [Instr.box, newVar, newRow, Sem.run_bind, Sem.run_pure, run_newObj, Result.andThen_ok, hcells]
    rfl
  · show 0 + i < bigI k.I w.heap.size (w.alloc (.cells cells t)) w.heap.size
    rw [hb2]
    have := (List.getElem?_eq_some_iff.1 hu).1
    rw [Array.length_toList] at this
    omega
  · have := cells_at (w := w.alloc (.cells cells t)) (b := w.heap.size) (t := t) (us := cells.toList) (by simpa using hh) i
    rw [Nat.zero_add, this]
    exact hu

theorem row_run {t e : TypeId} {n : Nat} {ie : TypeInfo} {z0 : Value} {parts : Array (Nat × Operand)} {qs : List (Nat × Nat × X)} (ho : o.op = .buildSlice t n parts) (hu : P.underlying t = some (.slice e)) (hie : P.info? e = some ie) (hz : ie.zero = some z0)
    (c2 : n * ie.size ≤ 2 ^ 24) (c3 : (zeros z0.cells (n * ie.size)).all (·.oneCell') = true) (hq : cParts P (fun i => some (i * ie.size, ie.size)) (fun _ => e) parts.toList = some qs) {cs : List AV} (hcs : fillA fr (zCells P e (zeros z0.cells (n * ie.size)).toList) qs = some cs)
    {k : Cfg} {a : Act} {w : World} (hops : Ops k w a o fr) : ∃ arr', RAs k w arr'.toList cs ∧ (execOp a.eval o).run P w = .ok (.value (.slice (some ⟨w.heap.size, 0, none⟩) n n)) (w.alloc (.cells arr' e)) := by
  have hmem : ∀ x ∈ parts.toList, x.2 ∈ o.op.operands := fun x hx => by
    rw [ho]; simp only [Op.operands]; simp; exact ⟨x.1, by simpa using hx⟩
  obtain ⟨arr', g1, g2⟩ := fill_ok (a := a) hops hq hmem (zCells_ok (P := P) (t := e) (fun u hu => Array.all_eq_true_iff_forall_mem.1 c3 u (by simpa using hu)) k w) hcs
  refine ⟨arr', g2, ?_⟩
  unfold execOp; rw [ho]
  refine run_value ?_
  have hne : ¬ (n * ie.size > 2 ^ 24) := by omega
  have g1' : Instr.fill (fun i => some (i * ie.size, ie.size)) (zeros z0.cells (n * ie.size)) (parts.map fun x => (x.1, a.eval x.2)).toList = some arr' := by rw [← g1]; simp
  by_cases h0 : n * ie.size = 0
  · have hzz : ∀ zz : Array Value, (Array.range (n * ie.size)).map (fun x => zz[x % zz.size]!) = zeros z0.cells (n * ie.size) := fun zz => by rw [h0]; simp [zeros]
    simp only [Instr.buildSlice, Sem.run_bind, run_underlying hu, Result.andThen_ok, sizeOf, typeInfo, run_program, hie, Sem.run_pure, if_neg hne, if_pos h0, hzz, g1', newRow, run_newObj]
    rfl
  · have hzz : (Array.range (n * ie.size)).map (fun x => z0.cells[x % z0.cells.size]!) = zeros z0.cells (n * ie.size) := rfl
    simp only [Instr.buildSlice, Sem.run_bind, run_underlying hu, Result.andThen_ok, sizeOf, typeInfo, run_program, hie, Sem.run_pure, if_neg hne, if_neg h0, zeroValue, hz, hzz, g1', newRow, run_newObj]
    rfl

theorem ok_row {fz mu : Bool} {t : TypeId} {n : Nat} {parts : Array (Nat × Operand)} {ci : CI} (ho : o.op = .buildSlice t n parts) (hc : compRow P fz mu t n parts.toList = some ci) (h : ci.sem fr s = some (d, s')) : AOp LL P o fr s d s' ∧ (ci.touch fr = 3 → AMk LL P o fr s d s') := by
  unfold compRow at hc
  split at hc
  · rename_i e hu
    split at hc
    · rename_i ie hie
      split at hc
      · rename_i z0 hz
        split at hc
        · rename_i hcc
          obtain ⟨c1, c2, c3⟩ := hcc
          obtain ⟨qs, hq, he⟩ := map_inv hc
          cases fz with
          | false =>
            simp only [Bool.false_eq_true, if_false] at he
            subst he
            obtain ⟨cs, hcs, h1⟩ := bind_inv (show ((fillA fr _ qs).bind fun cs => semBsl s mu e ie.size n cs) = some (d, s') from h)
            unfold semBsl at h1
            split at h1
            · rename_i hd
              obtain ⟨d1, d2⟩ := hd
              obtain ⟨x, hx1, rfl, hmf⟩ := made_form h1
              have key : AMk LL P o fr s d (s ++ x) := by
               refine ⟨x, rfl, fun s2 _ hn => ?_⟩
               rw [hx1] at hn
               intro B k a w hops hst
               obtain ⟨arr', g2, hrun⟩ := row_run (P := P) ho hu hie hz c2 c3 hq hcs hops
               have hl : arr'.size = n * ie.size := by have := g2.1; simp at this; omega
               obtain ⟨k', m1, m2, m3⟩ := made_ok hst hn (mu := mu || (toLs cs).isNone) (e := e) (sz := ie.size) (n := n) (cap := n) (cur := arr') (cs := cs) (by rw [List.take_of_length_le (by simp; omega)]; exact g2) d1 hl (Nat.le_refl _) d2 hmf
               exact OpWp.value hrun ⟨k', m1, m2, m3⟩
              exact ⟨key.op, fun _ => key⟩
            · cases h1
          | true =>
            simp only [if_true] at he
            subst he
            obtain ⟨hh, rfl⟩ := ret_inv h
            obtain ⟨cs, hcs, h1⟩ := bind_inv hh
            unfold rdBsf at h1
            split at h1
            · rename_i hd
              obtain ⟨d1, d2⟩ := hd
              obtain ⟨ds, hds, rfl⟩ := map_inv h1
              refine ⟨?_, fun ht => by cases ht⟩
              intro B k a w hops hst
              obtain ⟨arr', g2, hrun⟩ := row_run (P := P) ho hu hie hz c2 c3 hq hcs hops
              have hl : arr'.size = n * ie.size := by have := g2.1; simp at this; omega
              obtain ⟨k', m1, m2, m3⟩ := frozen_ok hst (e := e) (sz := ie.size) (n := n) (cap := n) (cur := arr') (cs := cs) (by rw [List.take_of_length_le (by simp; omega)]; exact g2) d1 hl (Nat.le_refl _) d2 hds
              exact OpWp.value hrun ⟨k', m1, m2, m3⟩
            · cases h1
        · cases hc
      · cases hc
    · cases hc
  · cases hc

theorem zeros_one (z : Value) (n : Nat) : zeros #[z] n = (List.replicate n z).toArray := by
  unfold zeros
  apply Array.ext'
  simp
  refine List.ext_getElem? fun i => ?_
  simp only [List.getElem?_map, List.getElem?_replicate, List.getElem?_range']
  by_cases h : i < n
  · simp [h, Nat.mod_one]
  · simp [h]

theorem wrap64_id {n : Int} (h : 0 ≤ n) (h2 : n < 9223372036854775808) : IntKind.i64.wrap n = n := by
  simp only [IntKind.wrap, IntKind.bits, IntKind.signed]
  have : n % 2 ^ 64 = n := by omega
  simp only [this]
  simp; omega

theorem ok_mks {mu : Bool} {t : TypeId} {p q : Operand} {ci : CI} (ho : o.op = .makeSlice t p q) (hc : compMks P mu t p q = some ci) (h : ci.sem fr s = some (d, s')) : AMk LL P o fr s d s' := by
  have hp : p ∈ o.op.operands := by rw [ho]; simp [Op.operands]
  have hq : q ∈ o.op.operands := by rw [ho]; simp [Op.operands]
  unfold compMks at hc
  split at hc
  · rename_i e x0 y0 hu hx hy
    split at hc
    · rename_i ie hie
      split at hc
      · rename_i z0 hz
        split at hc
        · rename_i hcc
          obtain ⟨c1, c2, c3⟩ := hcc
          obtain rfl := Option.some.inj hc
          obtain ⟨n, hn, h1⟩ := bind_inv (show (((x0.ev fr).bind AV.int?).bind fun n => ((y0.ev fr).bind AV.int?).bind fun m => semMks s mu e ie.bytes (cL P e z0) n m) = some (d, s') from h)
          obtain ⟨m, hm, h2⟩ := bind_inv h1
          obtain ⟨xv, hxv, hn1⟩ := bind_inv hn
          obtain ⟨yv, hyv, hm1⟩ := bind_inv hm
          unfold semMks at h2
          split at h2
          · rename_i hcc2
            obtain ⟨d1, d2, d3, d4⟩ := hcc2
            obtain ⟨x, hx1, rfl, hmf⟩ := made_form (f := fun dz => .tsl s.length 1 (List.replicate n.toNat [dz])) h2
            refine ⟨x, rfl, fun s2 _ hn2 => ?_⟩
            rw [hx1] at hn2
            intro B k a w hops hst
            have hp2 := (ev_ok hops hp hx hxv).sc_eq (AV.int_sc hn1)
            have hq2 := (ev_ok hops hq hy hyv).sc_eq (AV.int_sc hm1)
            have hzc : z0.cells = #[z0] := by cases z0 <;> first | rfl | simp [Value.oneCell'] at c2
            have hras : RAs k w (List.replicate n.toNat z0) (List.replicate n.toNat (cL P e z0)) := by
              refine ⟨by simp, fun u hu => ?_, fun i u d hu hd => ?_⟩
              · obtain ⟨_, rfl⟩ := List.mem_replicate.1 hu; exact c2
              · rw [List.getElem?_replicate] at hu hd
                split at hu
                · rename_i hlt
                  rw [if_pos hlt] at hd
                  cases hu; cases hd
                  exact cL_ok ..
                · cases hu
            have htake : (zeros #[z0] m.toNat).toList.take (n.toNat * 1) = List.replicate n.toNat z0 := by
              rw [zeros_one]; simp [List.take_replicate]; omega
            have hcsz : (zeros #[z0] m.toNat).size = m.toNat * 1 := by rw [zeros_one]; simp
            have hmade := made_ok hst hn2 (mu := mu) (e := e) (sz := 1) (n := n.toNat) (cap := m.toNat) (cur := zeros #[z0] m.toNat) (cs := List.replicate n.toNat (cL P e z0)) (d := d) (x := x) (by rw [htake]; exact hras) (by simp) hcsz (by omega) (by omega) (by
              cases mu with
              | true => simpa using hmf
              | false =>
                simp only [Bool.false_eq_true, if_false] at hmf ⊢
                obtain ⟨dz, hdz, h3⟩ := map_inv hmf
                have ht : ∀ k : Nat, toLs (List.replicate k (cL P e z0)) = some (List.replicate k dz) := fun k => by
                  induction k with
                  | zero => rfl
                  | succ k ih => simp [List.replicate_succ, toLs, hdz, ih]
                have hch : ∀ k : Nat, chunk 1 k (List.replicate k dz) = List.replicate k [dz] := fun k => by
                  induction k with
                  | zero => rfl
                  | succ k ih => simp [List.replicate_succ, chunk, ih]
                rw [ht]
                simp only [Option.map_some, hch]
                rw [h3])
            obtain ⟨k', m1, m2, m3⟩ := hmade
            refine OpWp.value (v := .slice (some ⟨w.heap.size, 0, none⟩) n.toNat m.toNat) (w' := w.alloc (.cells (zeros #[z0] m.toNat) e)) ?_ ⟨k', m1, m2, m3⟩
            unfold execOp; rw [ho]
            refine run_value ?_
            have hb1 : (1 : Int) ≤ ie.bytes := by omega
            have hmb : m * 1 ≤ m * (ie.bytes : Int) := Int.mul_le_mul_of_nonneg_left hb1 (by omega)
            have hw1 : IntKind.i64.wrap n = n := wrap64_id d1 (by omega)
            have hw2 : IntKind.i64.wrap m = m := wrap64_id (by omega) (by omega)
            have hlarge : (decide (m < 0) || decide ((ie.bytes : Int) * m > 2 ^ 48)) = false := by
              rw [Int.mul_comm]; simp; omega
            have hcond : (((decide (m < 0) || decide ((ie.bytes : Int) * m > 2 ^ 48)) || decide (n < 0)) || decide (n > m)) = false := by
              rw [hlarge]; simp; omega
            have hzz : ∀ zz : Array Value, (m.toNat = 0 ∨ zz = #[z0]) → (Array.range (m.toNat * 1)).map (fun x => zz[x % zz.size]!) = zeros #[z0] m.toNat := fun zz hz0 => by
              rcases hz0 with h0 | rfl
              · rw [h0]; simp [zeros]
              · rw [Nat.mul_one]; rfl
            by_cases h0 : m.toNat * 1 = 0
            · simp only [Instr.makeSlice, hp2, hq2, asInt, asIntOf, Sem.run_bind, run_underlying hu, Result.andThen_ok, sizeOf, typeInfo, run_program, hie, Sem.run_pure, hw1, hw2, hcond, Bool.false_eq_true, if_false, run_askRoom, c1, if_pos h0, hzz _ (Or.inl (by omega : m.toNat = 0)), newRow, run_newObj]
              rfl
            · simp only [Instr.makeSlice, hp2, hq2, asInt, asIntOf, Sem.run_bind, run_underlying hu, Result.andThen_ok, sizeOf, typeInfo, run_program, hie, Sem.run_pure, hw1, hw2, hcond, Bool.false_eq_true, if_false, run_askRoom, c1, if_neg h0, zeroValue, hz, hzc, hzz _ (Or.inr rfl), newRow, run_newObj]
              rfl
          · cases h2
        · cases hc
      · cases hc
    · cases hc
  · cases hc

/-! ### Strings and bytes -/

theorem ok_s2b {src dst e : TypeId} {p : Operand} {x : X} (ho : o.op = .convert src dst p) (hs : P.underlying src = some .string) (hd : P.underlying dst = some (.slice e)) (hu : P.underlying e = some (.int .u8)) (hx : cX P src p = some x) (h : (CI.s2b x).sem fr s = some (d, s')) : AOp LL P o fr s d s' := by
  have hp : p ∈ o.op.operands := by rw [ho]; simp [Op.operands]
  obtain ⟨hc, rfl⟩ := ret_inv h
  obtain ⟨b, hb, hc1⟩ := bind_inv hc
  obtain ⟨xv, hxv, hb1⟩ := bind_inv hb
  unfold rdS2b at hc1
  split at hc1
  · rename_i hsz
    obtain rfl := Option.some.inj hc1
    intro B k a w hops hst
    have he := (ev_ok hops hp hx hxv).sc_eq (AV.str_sc hb1)
    have hbw : Below w.heap.size w (Lib.bytesWorld w e b) := ⟨rfl, rfl, rfl, by rw [Lib.bytesWorld_size]; omega, fun j hj => Lib.bytesWorld_at_old w e b j hj⟩
    refine OpWp.value (v := .slice (some ⟨w.heap.size, 0, none⟩) b.size (grownCap w b.size 0 e)) (w' := Lib.bytesWorld w e b) ?_ ⟨⟨bigI k.I w.heap.size (Lib.bytesWorld w e b), k.own⟩, .d ?_, Ext.called hst.base hbw, hst.called hbw⟩
    · unfold execOp; rw [ho]
      refine run_value ?_
      rw [he]
      exact Lib.run_convert_string_bytes w src dst e b hs hd hu
    · have hlen : (bytesRow b).length = b.size := by simp [bytesRow]
      have hge := grownCap_ge w b.size 0 e
      have hcm : grownCap w b.size 0 e ≤ maxLen := grownCap_le_maxLen w b.size 0 e (by unfold maxLen; omega)
      unfold maxLen at hcm
      have hfl : (bytesRow b).flatten = b.data.toList.map fun x => D.sc (.int .u8 x.toNat) := by
        unfold bytesRow
        induction b.data.toList with
        | nil => rfl
        | cons y l ih => simp [ih]
      refine RD.sl_mk (us := b.data.toList.map fun x => Value.int .u8 x.toNat) hlen (fun r hr => ?_) hge (by omega) ?_ fun _ => ⟨_, 0, rfl, fun i u hu2 => ?_⟩
      · unfold bytesRow at hr
        obtain ⟨y, _, rfl⟩ := List.mem_map.1 hr
        rfl
      · rw [hfl]
        refine ⟨by simp, fun u hu2 => ?_, fun i u d hu2 hd2 => ?_⟩
        · obtain ⟨y, _, rfl⟩ := List.mem_map.1 hu2; rfl
        · rw [List.getElem?_map] at hu2 hd2
          obtain ⟨y, hy, rfl⟩ := Option.map_eq_some_iff.1 hu2
          rw [hy] at hd2
          cases hd2
          exact .sc _
      · rw [List.getElem?_map] at hu2
        obtain ⟨y, hy, rfl⟩ := Option.map_eq_some_iff.1 hu2
        have hi := (List.getElem?_eq_some_iff.1 hy).1
        have hcell := Lib.bytesWorld_cell w e b i (by simpa using hi)
        rw [List.getD_eq_getElem?_getD, hy] at hcell
        rw [Nat.zero_add]
        refine ⟨?_, hcell⟩
        show i < (if w.heap.size < w.heap.size then k.I w.heap.size else cellsIn (Lib.bytesWorld w e b) w.heap.size)
        rw [if_neg (Nat.lt_irrefl _)]
        exact lt_cellsIn hcell
  · cases hc1

/-- .. into a row that may grow. -/
theorem ok_s2o {src dst e : TypeId} {p : Operand} {x : X} (ho : o.op = .convert src dst p) (hs : P.underlying src = some .string) (hd : P.underlying dst = some (.slice e)) (hu : P.underlying e = some (.int .u8)) (hx : cX P src p = some x) (h : (CI.s2o e x).sem fr s = some (d, s')) : AMk LL P o fr s d s' := by
  have hp : p ∈ o.op.operands := by rw [ho]; simp [Op.operands]
  obtain ⟨b, hb, hc1⟩ := bind_inv (show ((x.ev fr).bind AV.str?).bind (semS2o s e) = some (d, s') from h)
  obtain ⟨xv, hxv, hb1⟩ := bind_inv hb
  unfold semS2o at hc1
  split at hc1
  · rename_i hsz
    obtain ⟨rfl, rfl⟩ := Prod.mk.inj (Option.some.inj hc1)
    refine ⟨_, rfl, fun s2 _ hn => ?_⟩
    intro B k a w hops hst
    have he := (ev_ok hops hp hx hxv).sc_eq (AV.str_sc hb1)
    have hbw : Below w.heap.size w (Lib.bytesWorld w e b) := ⟨rfl, rfl, rfl, by rw [Lib.bytesWorld_size]; omega, fun j hj => Lib.bytesWorld_at_old w e b j hj⟩
    have hlen : (bytesRow b).length = b.size := by simp [bytesRow]
    have hge := grownCap_ge w b.size 0 e
    have hcm : grownCap w b.size 0 e ≤ maxLen := grownCap_le_maxLen w b.size 0 e (by unfold maxLen; omega)
    have hbs : b.data.size = b.size := rfl
    have hfl : (bytesRow b).flatten = b.data.toList.map fun x => D.sc (.int .u8 x.toNat) := by
      unfold bytesRow
      induction b.data.toList with
      | nil => rfl
      | cons y l ih => simp [ih]
    have hown : ownsG (Lib.bytesWorld w e b) B e 1 (.slice (some ⟨w.heap.size, 0, none⟩) b.size (grownCap w b.size 0 e)) b.size (b.data.toList.map fun x => Value.int .u8 x.toNat) := by
      refine ⟨by simp [hbs], .inr ⟨w.heap.size, _, _, _, rfl, hst.base, Lib.bytesWorld_at_new w e b, hge, hcm, ?_, ?_, .inr (Nat.le_refl _)⟩⟩
      · simp [Lib.bytesCells, hbs]; omega
      · simp only [Lib.bytesCells, Array.toList_append, Array.toList_map, Nat.mul_one]
        rw [List.take_left' (by simp [hbs])]
    have hlt : w.heap.size < (Lib.bytesWorld w e b).heap.size := by rw [Lib.bytesWorld_size]; omega
    have hI : ∀ b', b' < w.heap.size → updI k.I w.heap.size (b.size * 1) b' = k.I b' := fun b' hb' => updI_ne _ _ (by omega)
    obtain ⟨hext, hs2⟩ := hst.newAt hbw hI hn (.row (.slice (some ⟨w.heap.size, 0, none⟩) b.size (grownCap w b.size 0 e)) b.size) (.row e 1 b.size) (fun b' hb' => by cases hb'; exact ⟨Nat.le_refl _, hlt⟩) fun _ => ⟨rfl, ⟨_, hown⟩, fun g hg => by cases hg; exact updI_self ..⟩
    refine OpWp.value (v := .slice (some ⟨w.heap.size, 0, none⟩) b.size (grownCap w b.size 0 e)) (w' := Lib.bytesWorld w e b) ?_ ⟨_, .tsl ?_ ⟨_, b.size, fill_own hst hn _, by rw [hlen]; exact Nat.le_refl _, fun _ => rfl⟩, hext, hs2⟩
    · unfold execOp; rw [ho]
      refine run_value ?_
      rw [he]
      exact Lib.run_convert_string_bytes w src dst e b hs hd hu
    · refine row_RD hown ?_ hlen (fun r hr => ?_) fun g hg => ?_
      · rw [hfl]
        refine ⟨by simp, fun u hu2 => ?_, fun i u d hu2 hd2 => ?_⟩
        · obtain ⟨y, _, rfl⟩ := List.mem_map.1 hu2; rfl
        · rw [List.getElem?_map] at hu2 hd2
          obtain ⟨y, hy, rfl⟩ := Option.map_eq_some_iff.1 hu2
          rw [hy] at hd2
          cases hd2
          exact .sc _
      · unfold bytesRow at hr
        obtain ⟨y, _, rfl⟩ := List.mem_map.1 hr
        rfl
      · cases hg
        exact Nat.le_of_eq (updI_self ..).symm
  · cases hc1

theorem bytesOfA_ok {k : Cfg} {w : World} : ∀ {us : List Value} {cs : List AV} {l : List UInt8}, RAs k w us cs → bytesOfA cs = some l → us = l.map fun x => Value.int .u8 x.toNat
  | [], [], l, _, h => by simp [bytesOfA] at h; subst h; rfl
  | [], _ :: _, _, h, _ => by simp [RAs] at h
  | _ :: _, [], _, h, _ => by simp [RAs] at h
  | u :: us, c :: cs, l, h, hl => by
    obtain ⟨y, hy, h2⟩ := bind_inv (show (byteV c).bind (fun b => (bytesOfA cs).map (b :: ·)) = some l from hl)
    obtain ⟨l', h3, rfl⟩ := map_inv h2
    have ht := bytesOfA_ok (us := us) (cs := cs) (l := l') ⟨by simpa using h.1, fun v hv => h.2.1 v (by simp [hv]), fun i v c' hv hc => h.2.2 (i + 1) v c' (by simpa using hv) (by simpa using hc)⟩ h3
    have h0 := h.2.2 0 u c rfl rfl
    unfold byteV at hy
    split at hy
    · rename_i n
      split at hy
      · rename_i hn
        obtain rfl := Option.some.inj hy
        have h1 := h0.d_inv
        cases h1
        rw [ht, List.map_cons]
        congr 2
        have : (UInt8.ofNat n.toNat).toNat = n.toNat := by
          rw [UInt8.toNat_ofNat']; omega
        rw [this]; omega
      · cases hy
    · cases hy

theorem rdB2s_src {v : AV} {b : ByteArray} (h : rdB2s (objOf s v) v = some b) : ∃ p, srcA s 1 v = some p ∧ bytesOfA p.2 = some b.data.toList := by
  unfold rdB2s at h
  split at h
  · rename_i id off n sz
    split at h
    · rename_i e; subst e
      obtain ⟨cs, hcs, h2⟩ := bind_inv h
      split at h2
      · rename_i hle
        obtain ⟨l, hl, rfl⟩ := map_inv h2
        refine ⟨(n, (cs.drop off).take n), ?_, by simpa using hl⟩
        have hcs' : cellsO (s[id]?) = some cs := hcs
        simp only [srcA, hcs', Option.bind_some]
        rw [if_pos ⟨trivial, by omega⟩]; simp
      · cases h2
    · cases h
  · rename_i id n sz
    split at h
    · rename_i e; subst e
      obtain ⟨p, hp, h2⟩ := bind_inv h
      split at h2
      · rename_i h1
        obtain ⟨l, hl, rfl⟩ := map_inv h2
        refine ⟨(n, p.2), ?_, by simpa using hl⟩
        have hp' : vecO n (s[id]?) = some p := hp
        simp only [srcA, hp', Option.bind_some]
        rw [if_pos ⟨trivial, h1⟩]
      · cases h2
    · cases h
  · rename_i h1 h2
    obtain ⟨rows, hr, h3⟩ := bind_inv h
    obtain ⟨l, hl, rfl⟩ := map_inv h3
    refine ⟨(rows.length, rows.flatten.map .d), ?_, by simpa using hl⟩
    unfold srcA
    split
    · exact absurd rfl (h2 _ _ _)
    · simp [slA] at hr
    · exact absurd rfl (h1 _ _ _ _)
    · rw [hr]; rfl

theorem foldl_push : ∀ (l : List UInt8) (b : ByteArray), (l.map fun x => ((x.toNat : Nat) : Int)).foldl (fun r n => r.push (UInt8.ofNat n.toNat)) b = ⟨b.data ++ l.toArray⟩
  | [], b => by simp
  | x :: l, b => by
    rw [List.map_cons, List.foldl_cons, foldl_push l]
    simp [ByteArray.push]

theorem ok_b2s {src dst e : TypeId} {p : Operand} {x : X} (ho : o.op = .convert src dst p) (hs : P.underlying src = some (.slice e)) (hd : P.underlying dst = some .string) (hu : P.underlying e = some (.int .u8)) (hx : cX P src p = some x) (h : (CI.b2s x).sem fr s = some (d, s')) : AOp LL P o fr s d s' := by
  have hp : p ∈ o.op.operands := by rw [ho]; simp [Op.operands]
  obtain ⟨hc, rfl⟩ := ret_inv h
  obtain ⟨v, hv, hc1⟩ := bind_inv hc
  obtain ⟨b, hb, rfl⟩ := map_inv hc1
  obtain ⟨m, hm, hby⟩ := rdB2s_src hb
  refine AOp.pure fun B k a w hops hst => ⟨_, ?_, .d (RD.sc _)⟩
  obtain ⟨us, hsrc, hus⟩ := srcA_ok hst (ev_ok hops hp hx hv) hm
  have hus2 := bytesOfA_ok hus hby
  unfold execOp; rw [ho]
  refine run_value ?_
  obtain ⟨hl, ⟨c, hq0, h0⟩ | ⟨ad, c, hq0, hcell⟩⟩ := hsrc
  · rw [hq0]
    have : b.data.toList = [] := by
      have : us = [] := List.eq_nil_of_length_eq_zero (by rw [hl, h0])
      rw [this] at hus2
      exact List.map_eq_nil_iff.1 hus2.symm
    rw [run_convert_bytes_nil w src e hs hu _ c dst hd]
    congr 2
    cases b with | mk d => simp at this; subst this; rfl
  · rw [hq0, run_convert_bytes_string w src dst e _ _ c hs hu hd]
    have hload := run_loadCells_list (P := P) w ad us (fun j y hj => hcell j y hj)
    rw [hl, Nat.mul_one] at hload
    rw [hus2] at hload
    rw [run_bytesToString w ad m.1 c (b.data.toList.map fun x => ((x.toNat : Nat) : Int)) (by rw [hload, List.map_map]; rfl), foldl_push]
    congr 2
    cases b with | mk d => simp [ByteArray.empty, ByteArray.emptyWithCapacity]; rfl
end
end Go.Bb
