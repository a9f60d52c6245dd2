/-
  Part GAF of this claim's proof. Joined by merge.py from the texts of wip/tpl.
-/
import Derived.Test.YtclholnhkhjjaaaGreatBb9
import Derived.Lib.ConvBytes
import Derived.Laws.BytesArg
set_option linter.unusedVariables false
set_option linter.unusedSimpArgs false
set_option linter.unnecessarySimpa false
set_option linter.unusedVariables false
namespace Go.Bb
open Go Go.RowKit Go.Ab Go.Proofs.Lg
section
variable {LL : Nat → Code → CC → Prop} {P : Program} {o : Oper} {fr : Fr} {s s' : List AObj} {d : AV}
theorem made_ok {B : Nat} {k : Cfg} {w : World} (hst : St LL B k s w) {mu : Bool} {e sz n cap : Nat} {cur : Array Value} {cs : List AV} (hcs : RAs k w (cur.toList.take (n * sz)) cs) (hn : cs.length = n * sz) (hsz : cur.size = cap * sz) (hnc : n ≤ cap) (hcm : cap ≤ 9223372036854775807)
   (h : (if mu then some (AV.vec s.length n sz, s ++ [AObj.vec e sz cs]) else (toLs cs).map fun ds => (.tsl s.length sz (chunk sz n ds), s ++ [.row e sz n])) = some (d, s')) :
   ∃ k', RA k' (w.alloc (.cells cur e)) (.slice (some ⟨w.heap.size, 0, none⟩) n cap) d ∧ Ext B k w k' (w.alloc (.cells cur e)) ∧ St LL B k' s' (w.alloc (.cells cur e)) := by
 have hb : Below w.heap.size w (w.alloc (.cells cur e)) := (Below.refl _ _).alloc (Nat.le_refl _) _
 have hh : (w.alloc (.cells cur e)).heap[w.heap.size]? = some (.cells cur e (0, 0)) := heap_alloc_new w _
 have hlt : w.heap.size < (w.alloc (.cells cur e)).heap.size := (Array.getElem?_eq_some_iff.1 hh).1
 have hown : (w.alloc (.cells cur e)).ownsRow B e sz (.slice (some ⟨w.heap.size, 0, none⟩) n cap) n (cur.toList.take (n * sz)) :=
   ⟨by rw [hcs.1, hn], .inr ⟨w.heap.size, cap, cur, rfl, hst.base, hh, hnc, by unfold maxLen; exact hcm, hsz, rfl⟩⟩
 have hI : ∀ x b, b < w.heap.size → updI k.I w.heap.size x b = k.I b := fun x b hb => updI_ne _ _ (by omega)
 have hob : ∀ b, (Own.row (.slice (some ⟨w.heap.size, 0, none⟩) n cap) n).block = some b → w.heap.size ≤ b ∧ b < (w.alloc (.cells cur e)).heap.size := fun b hb => by cases hb; exact ⟨Nat.le_refl _, hlt⟩
 have hext : ∀ x, Ext B k w ⟨updI k.I w.heap.size x, k.own ++ [.row (.slice (some ⟨w.heap.size, 0, none⟩) n cap) n]⟩ (w.alloc (.cells cur e)) := fun x => Ext.new hst.base hb (hI x) _ fun b hb => (hob b hb).1
 cases mu with
 | true =>
   obtain ⟨rfl, rfl⟩ := Prod.mk.inj (Option.some.inj (by simpa using h))
   obtain ⟨he, hs2⟩ := hst.new hb (hI 0) _ (.vec e sz cs) hob ⟨_, hown, (fun g hg => by cases hg; exact updI_self ..), hn, hcs.mono (hext 0).mono⟩
   exact ⟨_, .vec ⟨_, _, rfl⟩ ⟨_, n, by rw [← hst.len]; simp, Nat.le_refl _, fun _ => rfl⟩, he, hs2⟩
 | false =>
   simp only [Bool.false_eq_true, if_false] at h
   obtain ⟨ds, hds, h1⟩ := map_inv h
   obtain ⟨rfl, rfl⟩ := Prod.mk.inj h1
   obtain ⟨he, hs2⟩ := hst.new hb (hI (n * sz)) _ (.row e sz n) hob ⟨rfl, ⟨_, hown⟩, fun g hg => by cases hg; exact updI_self ..⟩
   have hl := (toLs_get hds).1
   obtain ⟨hf1, hf2⟩ := chunk_flat sz n ds (by omega)
   refine ⟨_, .tsl ?_ ⟨_, n, by rw [← hst.len]; simp, by rw [chunk_len]; exact Nat.le_refl _, fun _ => rfl⟩, he, hs2⟩
   refine row_RD hown (by rw [hf1]; exact (hcs.toLs hds).mono he.keep) (chunk_len sz n ds) hf2 fun g hg => ?_
   cases hg
   exact Nat.le_of_eq (updI_self ..).symm
theorem frozen_ok {B : Nat} {k : Cfg} {w : World} (hst : St LL B k s w) {e sz n cap : Nat} {cur : Array Value} {cs : List AV} {ds : List D} (hcs : RAs k w (cur.toList.take (n * sz)) cs) (hn : cs.length = n * sz) (hsz : cur.size = cap * sz) (hnc : n ≤ cap) (hcm : cap ≤ 9223372036854775807)
   (hds : toLs cs = some ds) :
   ∃ k', RA k' (w.alloc (.cells cur e)) (.slice (some ⟨w.heap.size, 0, none⟩) n cap) (.d (.sl sz (chunk sz n ds))) ∧ Ext B k w k' (w.alloc (.cells cur e)) ∧ St LL B k' s (w.alloc (.cells cur e)) := by
 have hb : Below w.heap.size w (w.alloc (.cells cur e)) := (Below.refl _ _).alloc (Nat.le_refl _) _
 have hh : (w.alloc (.cells cur e)).heap[w.heap.size]? = some (.cells cur e (0, 0)) := heap_alloc_new w _
 have hown : (w.alloc (.cells cur e)).ownsRow B e sz (.slice (some ⟨w.heap.size, 0, none⟩) n cap) n (cur.toList.take (n * sz)) :=
   ⟨by rw [hcs.1, hn], .inr ⟨w.heap.size, cap, cur, rfl, hst.base, hh, hnc, by unfold maxLen; exact hcm, hsz, rfl⟩⟩
 have he := Ext.called (k := k) hst.base hb
 have hl := (toLs_get hds).1
 obtain ⟨hf1, hf2⟩ := chunk_flat sz n ds (by omega)
 refine ⟨_, .d ?_, he, hst.called hb⟩
 refine row_RD hown (by rw [hf1]; exact (hcs.toLs hds).mono he.keep) (chunk_len sz n ds) hf2 fun g hg => ?_
 cases hg
 have hb2 : bigI k.I w.heap.size (w.alloc (.cells cur e)) w.heap.size = cur.size := by
   unfold bigI cellsIn
   rw [if_neg (Nat.lt_irrefl _), hh]
 show n * sz ≤ bigI k.I w.heap.size (w.alloc (.cells cur e)) w.heap.size
 rw [hb2, hsz]; exact Nat.mul_le_mul_right _ hnc
theorem row_run {t e : TypeId} {n : Nat} {ie : TypeInfo} {z0 : Value} {parts : Array (Nat × Operand)} {qs : List (Nat × Nat × X)} (ho : o.op = .buildSlice t n parts) (hu : P.underlying t = some (.slice e)) (hie : P.info? e = some ie) (hz : ie.zero = some z0)
   (c2 : n * ie.size ≤ 2 ^ 24) (c3 : (zeros z0.cells (n * ie.size)).all (·.oneCell') = true) (hq : cParts P (fun i => some (i * ie.size, ie.size)) (fun _ => e) parts.toList = some qs) {cs : List AV} (hcs : fillA fr (zCells P e (zeros z0.cells (n * ie.size)).toList) qs = some cs)
   {k : Cfg} {a : Act} {w : World} (hops : Ops k w a o fr) : ∃ arr', RAs k w arr'.toList cs ∧ (execOp a.eval o).run P w = .ok (.value (.slice (some ⟨w.heap.size, 0, none⟩) n n)) (w.alloc (.cells arr' e)) := by
 have hmem : ∀ x ∈ parts.toList, x.2 ∈ o.op.operands := fun x hx => by
   rw [ho]; simp only [Op.operands]; simp; exact ⟨x.1, by simpa using hx⟩
 obtain ⟨arr', g1, g2⟩ := fill_ok (a := a) hops hq hmem (zCells_ok (P := P) (t := e) (fun u hu => Array.all_eq_true_iff_forall_mem.1 c3 u (by simpa using hu)) k w) hcs
 refine ⟨arr', g2, ?_⟩
 unfold execOp; rw [ho]
 refine run_value ?_
 have hne : ¬ (n * ie.size > 2 ^ 24) := by omega
 have g1' : Instr.fill (fun i => some (i * ie.size, ie.size)) (zeros z0.cells (n * ie.size)) (parts.map fun x => (x.1, a.eval x.2)).toList = some arr' := by rw [← g1]; simp
 by_cases h0 : n * ie.size = 0
 · have hzz : ∀ zz : Array Value, (Array.range (n * ie.size)).map (fun x => zz[x % zz.size]!) = zeros z0.cells (n * ie.size) := fun zz => by rw [h0]; simp [zeros]
   simp only [Instr.buildSlice, Sem.run_bind, run_underlying hu, Result.andThen_ok, sizeOf, typeInfo, run_program, hie, Sem.run_pure, if_neg hne, if_pos h0, hzz, g1', newRow, run_newObj]
   rfl
 · have hzz : (Array.range (n * ie.size)).map (fun x => z0.cells[x % z0.cells.size]!) = zeros z0.cells (n * ie.size) := rfl
   simp only [Instr.buildSlice, Sem.run_bind, run_underlying hu, Result.andThen_ok, sizeOf, typeInfo, run_program, hie, Sem.run_pure, if_neg hne, if_neg h0, zeroValue, hz, hzz, g1', newRow, run_newObj]
   rfl
theorem ok_row {fz mu : Bool} {t : TypeId} {n : Nat} {parts : Array (Nat × Operand)} {ci : CI} (ho : o.op = .buildSlice t n parts) (hc : compRow P fz mu t n parts.toList = some ci) (h : ci.sem fr s = some (d, s')) : AOp LL P o fr s d s' := by
 unfold compRow at hc
 split at hc
 · rename_i e hu
   split at hc
   · rename_i ie hie
     split at hc
     · rename_i z0 hz
       split at hc
       · rename_i hcc
         obtain ⟨c1, c2, c3⟩ := hcc
         obtain ⟨qs, hq, he⟩ := map_inv hc
         cases fz with
         | false =>
           simp only [Bool.false_eq_true, if_false] at he
           subst he
           obtain ⟨cs, hcs, h1⟩ := bind_inv (show ((fillA fr _ qs).bind fun cs => semBsl s mu e ie.size n cs) = some (d, s') from h)
           unfold semBsl at h1
           split at h1
           · rename_i hd
             obtain ⟨d1, d2⟩ := hd
             intro B k a w hops hst
             obtain ⟨arr', g2, hrun⟩ := row_run (P := P) ho hu hie hz c2 c3 hq hcs hops
             have hl : arr'.size = n * ie.size := by have := g2.1; simp at this; omega
             obtain ⟨k', m1, m2, m3⟩ := made_ok hst (mu := mu || (toLs cs).isNone) (e := e) (sz := ie.size) (n := n) (cap := n) (cur := arr') (cs := cs) (by rw [List.take_of_length_le (by simp; omega)]; exact g2) d1 hl (Nat.le_refl _) d2 h1
             exact OpWp.value hrun ⟨k', m1, m2, m3⟩
           · cases h1
         | true =>
           simp only [if_true] at he
           subst he
           obtain ⟨hh, rfl⟩ := ret_inv h
           obtain ⟨cs, hcs, h1⟩ := bind_inv hh
           unfold rdBsf at h1
           split at h1
           · rename_i hd
             obtain ⟨d1, d2⟩ := hd
             obtain ⟨ds, hds, rfl⟩ := map_inv h1
             intro B k a w hops hst
             obtain ⟨arr', g2, hrun⟩ := row_run (P := P) ho hu hie hz c2 c3 hq hcs hops
             have hl : arr'.size = n * ie.size := by have := g2.1; simp at this; omega
             obtain ⟨k', m1, m2, m3⟩ := frozen_ok hst (e := e) (sz := ie.size) (n := n) (cap := n) (cur := arr') (cs := cs) (by rw [List.take_of_length_le (by simp; omega)]; exact g2) d1 hl (Nat.le_refl _) d2 hds
             exact OpWp.value hrun ⟨k', m1, m2, m3⟩
           · cases h1
       · cases hc
     · cases hc
   · cases hc
 · cases hc
theorem zeros_one (z : Value) (n : Nat) : zeros #[z] n = (List.replicate n z).toArray := by
 unfold zeros
 apply Array.ext'
 simp
 refine List.ext_getElem? fun i => ?_
 simp only [List.getElem?_map, List.getElem?_replicate, List.getElem?_range']
 by_cases h : i < n
 · simp [h, Nat.mod_one]
 · simp [h]
theorem wrap64_id {n : Int} (h : 0 ≤ n) (h2 : n < 9223372036854775808) : IntKind.i64.wrap n = n := by
 simp only [IntKind.wrap, IntKind.bits, IntKind.signed]
 have : n % 2 ^ 64 = n := by omega
 simp only [this]
 simp; omega
theorem ok_mks {mu : Bool} {t : TypeId} {p q : Operand} {ci : CI} (ho : o.op = .makeSlice t p q) (hc : compMks P mu t p q = some ci) (h : ci.sem fr s = some (d, s')) : AOp LL P o fr s d s' := by
 have hp : p ∈ o.op.operands := by rw [ho]; simp [Op.operands]
 have hq : q ∈ o.op.operands := by rw [ho]; simp [Op.operands]
 unfold compMks at hc
 split at hc
 · rename_i e x0 y0 hu hx hy
   split at hc
   · rename_i ie hie
     split at hc
     · rename_i z0 hz
       split at hc
       · rename_i hcc
         obtain ⟨c1, c2, c3⟩ := hcc
         obtain rfl := Option.some.inj hc
         obtain ⟨n, hn, h1⟩ := bind_inv (show (((x0.ev fr).bind AV.int?).bind fun n => ((y0.ev fr).bind AV.int?).bind fun m => semMks s mu e ie.bytes (cL P e z0) n m) = some (d, s') from h)
         obtain ⟨m, hm, h2⟩ := bind_inv h1
         obtain ⟨xv, hxv, hn1⟩ := bind_inv hn
         obtain ⟨yv, hyv, hm1⟩ := bind_inv hm
         unfold semMks at h2
         split at h2
         · rename_i hcc2
           obtain ⟨d1, d2, d3, d4⟩ := hcc2
           intro B k a w hops hst
           have hp2 := (ev_ok hops hp hx hxv).sc_eq (AV.int_sc hn1)
           have hq2 := (ev_ok hops hq hy hyv).sc_eq (AV.int_sc hm1)
           have hzc : z0.cells = #[z0] := by cases z0 <;> first | rfl | simp [Value.oneCell'] at c2
           have hras : RAs k w (List.replicate n.toNat z0) (List.replicate n.toNat (cL P e z0)) := by
             refine ⟨by simp, fun u hu => ?_, fun i u d hu hd => ?_⟩
             · obtain ⟨_, rfl⟩ := List.mem_replicate.1 hu; exact c2
             · rw [List.getElem?_replicate] at hu hd
               split at hu
               · rename_i hlt
                 rw [if_pos hlt] at hd
                 cases hu; cases hd
                 exact cL_ok ..
               · cases hu
           have htake : (zeros #[z0] m.toNat).toList.take (n.toNat * 1) = List.replicate n.toNat z0 := by
             rw [zeros_one]; simp [List.take_replicate]; omega
           have hcsz : (zeros #[z0] m.toNat).size = m.toNat * 1 := by rw [zeros_one]; simp
           have hmade := made_ok hst (mu := mu) (e := e) (sz := 1) (n := n.toNat) (cap := m.toNat) (cur := zeros #[z0] m.toNat) (cs := List.replicate n.toNat (cL P e z0)) (d := d) (s' := s') (by rw [htake]; exact hras) (by simp) hcsz (by omega) (by omega) (by
             cases mu with
             | true => simpa using h2
             | false =>
               simp only [Bool.false_eq_true, if_false] at h2 ⊢
               obtain ⟨dz, hdz, h3⟩ := map_inv h2
               have ht : ∀ k : Nat, toLs (List.replicate k (cL P e z0)) = some (List.replicate k dz) := fun k => by
                 induction k with
                 | zero => rfl
                 | succ k ih => simp [List.replicate_succ, toLs, hdz, ih]
               have hch : ∀ k : Nat, chunk 1 k (List.replicate k dz) = List.replicate k [dz] := fun k => by
                 induction k with
                 | zero => rfl
                 | succ k ih => simp [List.replicate_succ, chunk, ih]
               rw [ht]
               simp only [Option.map_some, hch]
               rw [h3])
           obtain ⟨k', m1, m2, m3⟩ := hmade
           refine OpWp.value (v := .slice (some ⟨w.heap.size, 0, none⟩) n.toNat m.toNat) (w' := w.alloc (.cells (zeros #[z0] m.toNat) e)) ?_ ⟨k', m1, m2, m3⟩
           unfold execOp; rw [ho]
           refine run_value ?_
           have hb1 : (1 : Int) ≤ ie.bytes := by omega
           have hmb : m * 1 ≤ m * (ie.bytes : Int) := Int.mul_le_mul_of_nonneg_left hb1 (by omega)
           have hw1 : IntKind.i64.wrap n = n := wrap64_id d1 (by omega)
           have hw2 : IntKind.i64.wrap m = m := wrap64_id (by omega) (by omega)
           have hlarge : (decide (m < 0) || decide ((ie.bytes : Int) * m > 2 ^ 48)) = false := by
             rw [Int.mul_comm]; simp; omega
           have hcond : (((decide (m < 0) || decide ((ie.bytes : Int) * m > 2 ^ 48)) || decide (n < 0)) || decide (n > m)) = false := by
             rw [hlarge]; simp; omega
           have hzz : ∀ zz : Array Value, (m.toNat = 0 ∨ zz = #[z0]) → (Array.range (m.toNat * 1)).map (fun x => zz[x % zz.size]!) = zeros #[z0] m.toNat := fun zz hz0 => by
             rcases hz0 with h0 | rfl
             · rw [h0]; simp [zeros]
             · rw [Nat.mul_one]; rfl
           by_cases h0 : m.toNat * 1 = 0
           · simp only [Instr.makeSlice, hp2, hq2, asInt, asIntOf, Sem.run_bind, run_underlying hu, Result.andThen_ok, sizeOf, typeInfo, run_program, hie, Sem.run_pure, hw1, hw2, hcond, Bool.false_eq_true, if_false, run_askRoom, c1, if_pos h0, hzz _ (Or.inl (by omega : m.toNat = 0)), newRow, run_newObj]
             rfl
           · simp only [Instr.makeSlice, hp2, hq2, asInt, asIntOf, Sem.run_bind, run_underlying hu, Result.andThen_ok, sizeOf, typeInfo, run_program, hie, Sem.run_pure, hw1, hw2, hcond, Bool.false_eq_true, if_false, run_askRoom, c1, if_neg h0, zeroValue, hz, hzc, hzz _ (Or.inr rfl), newRow, run_newObj]
             rfl
         · cases h2
       · cases hc
     · cases hc
   · cases hc
 · cases hc
end
end Go.Bb

set_option linter.unusedVariables false
namespace Go.Bb
open Go Go.RowKit Go.Ab Go.Proofs.Lg
section
variable {LL : Nat → Code → CC → Prop} {P : Program} {o : Oper} {fr : Fr} {s s' : List AObj} {d : AV}
theorem keyV_valC (kt : TypeId) (us : List Value) : keyV (isAggT P kt) us = valC P kt us := by
 unfold keyV isAggT valC
 cases hu : P.underlying kt with
 | none => rfl
 | some td => cases td <;> rfl
def simpleV : Value → Bool
 | .int _ _ => true
 | .string _ => true
 | .bool _ => true
 | _ => false
theorem eqKs_simple : ∀ {ks : List SK} {us vs : List Value} {b : Bool}, eqKs ks us vs = some b → (∀ u ∈ us, simpleV u = true) ∧ ∀ v ∈ vs, simpleV v = true
 | [], [], [], _, _ => by simp
 | .i :: ks, .int k a :: us, .int k' c :: vs, b, h => by
   unfold eqKs at h
   split at h
   · obtain ⟨r, h', _⟩ := map_inv h
     have := eqKs_simple h'
     exact ⟨by simpa [simpleV] using this.1, by simpa [simpleV] using this.2⟩
   · cases h
 | .s :: ks, .string a :: us, .string c :: vs, b, h => by
   unfold eqKs at h
   obtain ⟨r, h', _⟩ := map_inv h
   have := eqKs_simple h'
   exact ⟨by simpa [simpleV] using this.1, by simpa [simpleV] using this.2⟩
 | .b :: ks, .bool a :: us, .bool c :: vs, b, h => by
   unfold eqKs at h
   obtain ⟨r, h', _⟩ := map_inv h
   have := eqKs_simple h'
   exact ⟨by simpa [simpleV] using this.1, by simpa [simpleV] using this.2⟩
 | [], _ :: _, _, _, h => by simp [eqKs] at h
 | [], [], _ :: _, _, h => by simp [eqKs] at h
 | k :: ks, [], _, _, h => by cases k <;> simp [eqKs] at h
 | k :: ks, u :: us, [], _, h => by cases k <;> simp [eqKs] at h
theorem eqKs_true : ∀ {ks : List SK} {us vs : List Value}, eqKs ks us vs = some true → us = vs
 | [], [], [], _ => rfl
 | .i :: ks, .int k a :: us, .int k' c :: vs, h => by
   unfold eqKs at h
   split at h
   · rename_i hk
     subst hk
     obtain ⟨r, h', hb⟩ := map_inv h
     simp only [Bool.and_eq_true, beq_iff_eq] at hb
     obtain ⟨rfl, rfl⟩ := hb
     rw [eqKs_true h']
   · cases h
 | .s :: ks, .string a :: us, .string c :: vs, h => by
   unfold eqKs at h
   obtain ⟨r, h', hb⟩ := map_inv h
   simp only [Bool.and_eq_true, beq_iff_eq] at hb
   obtain ⟨ha, rfl⟩ := hb
   rw [ByteArray.toList_eq, ByteArray.toList_eq] at ha
   rw [eqKs_true h', ByteArray.ext (Array.toList_inj.mp ha)]
 | .b :: ks, .bool a :: us, .bool c :: vs, h => by
   unfold eqKs at h
   obtain ⟨r, h', hb⟩ := map_inv h
   simp only [Bool.and_eq_true, beq_iff_eq] at hb
   obtain ⟨rfl, rfl⟩ := hb
   rw [eqKs_true h']
 | [], _ :: _, _, h => by simp [eqKs] at h
 | [], [], _ :: _, h => by simp [eqKs] at h
 | k :: ks, [], _, h => by cases k <;> simp [eqKs] at h
 | k :: ks, u :: us, [], h => by cases k <;> simp [eqKs] at h
theorem sameBits_simple (n : Nat) {u : Value} (h : simpleV u = true) : Instr.sameBits n u u = true := by
 cases u <;> simp [simpleV] at h <;> cases n <;> simp [Instr.sameBits, beq_toListBytes]
theorem sameBits_key {ag : Bool} {us : List Value} (h : ∀ u ∈ us, simpleV u = true) (hne : ag = false → us ≠ []) : Instr.sameBits 10000 (keyV ag us) (keyV ag us) = true := by
 cases ag with
 | true =>
   show Instr.sameBits (9999 + 1) (.agg us.toArray) (.agg us.toArray) = true
   rw [Instr.sameBits]
   simp only [beq_self_eq_true, Bool.true_and, List.all_eq_true]
   rintro ⟨x, y⟩ hxy
   have : x = y ∧ x ∈ us := by
     have h1 : (us.zip us) = us.map fun u => (u, u) := by
       clear h hne hxy
       induction us with
       | nil => rfl
       | cons u us ih => simp [ih]
     simp only [h1] at hxy
     obtain ⟨u, hu, he⟩ := List.mem_map.1 hxy
     cases he
     exact ⟨rfl, hu⟩
   obtain ⟨rfl, hx⟩ := this
   exact sameBits_simple _ (h x hx)
 | false =>
   cases us with
   | nil => exact absurd rfl (hne rfl)
   | cons u us => exact sameBits_simple _ (h u (by simp))
theorem checkKey_ok {em : Bool} {w : World} : ∀ (d m : Nat) (t : TypeId) (ks : List SK), d ≤ m → leafS P d t = some ks → ∀ us : List Value, us.length = ks.length → (Instr.checkKey em m t (valC P t us)).run P w = .ok () w
 | 0, _, _, _, _, h => by simp [leafS] at h
 | d + 1, 0, _, _, hm, _ => by omega
 | d + 1, m + 1, t, ks, hm, h => by
   intro us hl
   have sc : ∀ td v, P.underlying t = some td → (match td with | .int _ | .string | .bool => True | _ => False) → (Instr.checkKey em (m + 1) t v).run P w = .ok () w := fun td v hu ht => by
     unfold Instr.checkKey
     simp only [Sem.run_bind, run_underlying hu, Result.andThen_ok]
     cases td <;> first | exact ht.elim | rfl
   unfold leafS at h
   split at h
   · rename_i q hu; exact sc _ _ hu trivial
   · rename_i hu; exact sc _ _ hu trivial
   · rename_i hu; exact sc _ _ hu trivial
   · rename_i n e hu
     have hv : valC P t us = .agg us.toArray := by unfold valC; rw [hu]
     rw [hv]
     split at h
     · rename_i ke he
       split at h
       · rename_i hc
         obtain rfl := Option.some.inj h
         obtain ⟨ie, hie⟩ := Option.isSome_iff_exists.1 hc.2.2
         obtain ⟨_, hi2, hsz, _⟩ := leafS_info he
         rw [hie] at hi2; cases hi2
         have hfl : (List.replicate n ke).flatten.length = n * ke.length := by simp
         unfold Instr.checkKey
         simp only [Sem.run_bind, run_underlying hu, Result.andThen_ok]
         simp only [Std.Legacy.Range.forIn_eq_forIn_range', Std.Legacy.Range.size, Nat.sub_zero, Nat.add_one_sub_one, Nat.div_one]
         have key : ∀ (is : List Nat), (∀ i ∈ is, i < n) → (forIn is PUnit.unit (fun i _ => do
             let x ← sizeOf e
             let x ← part e us.toArray (i * x)
             Instr.checkKey em m e x
             pure (ForInStep.yield PUnit.unit)) : Sem PUnit).run P w = .ok PUnit.unit w := by
           intro is
           induction is with
           | nil => intro _; simp
           | cons i is ih =>
             intro hi
             have hin := hi i (by simp)
             have hoff : i * ke.length + ke.length ≤ us.toArray.size := by
               have : (i + 1) * ke.length ≤ n * ke.length := Nat.mul_le_mul_right _ hin
               rw [Nat.add_mul, Nat.one_mul] at this
               simp; omega
             have p := run_partS (w := w) he (cs := us.toArray) (off := i * ke.length) hoff
             have c := checkKey_ok (em := em) (w := w) d m e ke (by omega) he ((us.toArray.toList.drop (i * ke.length)).take ke.length) (by simp; simp at hoff; omega)
             simp only [List.forIn_cons, Sem.run_bind, sizeOf, typeInfo, run_program, hie, Sem.run_pure, Result.andThen_ok, hsz, p, c]
             have := ih fun j hj => hi j (by simp [hj])
             simpa only [Sem.run_bind, sizeOf, typeInfo, run_program, hie, Sem.run_pure, Result.andThen_ok, hsz] using this
         have k2 := key (List.range' 0 n) (fun i hi => by simp at hi; omega)
         rw [k2]
         rfl
       · cases h
     · cases h
   · rename_i fs hu
     have hv : valC P t us = .agg us.toArray := by unfold valC; rw [hu]
     rw [hv]
     split at h
     · rename_i hn
       split at h
       · rename_i kss hk
         split at h
         · rename_i hc
           obtain rfl := Option.some.inj h
           unfold Instr.checkKey
           simp only [Sem.run_bind, run_underlying hu, Result.andThen_ok]
           rw [← Array.forIn_toList]
           have key : ∀ (fl : List Field) (kss : List (List SK)) (off : Nat), fl.mapM (fun f => leafS P d f.type) = some kss → leafS.offsOk fl kss off = true → off + kss.flatten.length ≤ us.length →
               (forIn fl PUnit.unit (fun f _ => do
                 if f.name ≠ "_" then do
                   let x ← part f.type us.toArray f.offset
                   Instr.checkKey em m f.type x
                   pure (ForInStep.yield PUnit.unit)
                 else pure (ForInStep.yield PUnit.unit)) : Sem PUnit).run P w = .ok PUnit.unit w := by
             intro fl
             induction fl with
             | nil => intro _ _ _ _ _; simp
             | cons f fl ih =>
               intro kss off h1 h2 h3
               rw [List.mapM_cons] at h1
               cases hkf : leafS P d f.type with
               | none => rw [hkf] at h1; cases h1
               | some kf =>
                 cases hm2 : fl.mapM fun f => leafS P d f.type with
                 | none => rw [hkf, hm2] at h1; cases h1
                 | some kss' =>
                   rw [hkf, hm2] at h1
                   obtain rfl : kf :: kss' = kss := Option.some.inj h1
                   simp only [leafS.offsOk, Bool.and_eq_true, decide_eq_true_eq] at h2
                   rw [List.flatten_cons, List.length_append] at h3
                   have p := run_partS (w := w) hkf (cs := us.toArray) (off := off) (by simp; omega)
                   have c := checkKey_ok (em := em) (w := w) d m f.type kf (by omega) hkf ((us.toArray.toList.drop off).take kf.length) (by simp; omega)
                   have hr := ih kss' (off + kf.length) hm2 h2.2 (by omega)
                   by_cases hnm : f.name ≠ "_"
                   · simp only [List.forIn_cons, Sem.run_bind, if_pos hnm, h2.1, p, c, Result.andThen_ok, Sem.run_pure]
                     exact hr
                   · simp only [List.forIn_cons, Sem.run_bind, if_neg hnm, Result.andThen_ok, Sem.run_pure]
                     exact hr
           have k2 := key fs.toList kss 0 hk hc.2.1 (by rw [hl]; omega)
           rw [k2]
           rfl
         · cases h
       · cases h
     · cases h
   · cases h
def EntsOk (ag : Bool) (k : Cfg) (w : World) (es : List (List Value × AV)) (l : List MapEntry) : Prop :=
 l.length = es.length ∧ ∀ (i : Nat) (e : MapEntry) (x : List Value × AV), l[i]? = some e → es[i]? = some x → e.key = keyV ag x.1 ∧ RA k w e.val x.2
theorem EntsOk.tail {ag : Bool} {k : Cfg} {w : World} {x : List Value × AV} {es : List (List Value × AV)} {e : MapEntry} {l : List MapEntry} (h : EntsOk ag k w (x :: es) (e :: l)) : EntsOk ag k w es l :=
 ⟨by have := h.1; simpa using this, fun i e' x' he hx => h.2 (i + 1) e' x' he hx⟩
def FoundOk (k : Cfg) (w : World) (i0 : Nat) (es : List (List Value × AV)) (l : List MapEntry) : Option (Nat × AV) → Option (Nat × Value) → Prop
 | none, none => True
 | some (i, x), some (j, v) => i = j ∧ i0 ≤ i ∧ RA k w v x ∧ ∃ e q, l[i - i0]? = some e ∧ es[i - i0]? = some (q, x) ∧ e.val = v
 | _, _ => False
theorem FoundOk.step {k : Cfg} {w : World} {i0 : Nat} {x : List Value × AV} {es : List (List Value × AV)} {e : MapEntry} {l : List MapEntry} : ∀ {r : Option (Nat × AV)} {q : Option (Nat × Value)}, FoundOk k w (i0 + 1) es l r q → FoundOk k w i0 (x :: es) (e :: l) r q
 | none, none, _ => trivial
 | some (i, y), some (j, v), h => by
   obtain ⟨rfl, h1, h2, e', q, h3, h4, h5⟩ := h
   have hi : i - i0 = (i - (i0 + 1)) + 1 := by omega
   exact ⟨rfl, by omega, h2, e', q, by rw [hi]; exact h3, by rw [hi]; exact h4, h5⟩
 | none, some _, h => h.elim
 | some _, none, h => h.elim
theorem findAsking_ok {ks : List SK} {kt : TypeId} (hk : leafS P 12 kt = some ks) {k : Cfg} {w : World} {key : List Value} : ∀ (es : List (List Value × AV)) (l : List MapEntry) (i : Nat) (r : Option (Nat × AV)), EntsOk (isAggT P kt) k w es l → findE ks key es i = some r →
   ∃ q, (Instr.findAsking kt (valC P kt key) l i).run P w = .ok q w ∧ FoundOk k w i es l r q
 | [], [], i, r, _, h => by
   simp [findE] at h; subst h
   exact ⟨none, by simp [Instr.findAsking], trivial⟩
 | [], e :: l, i, r, he, _ => by have := he.1; simp at this
 | x :: es, [], i, r, he, _ => by have := he.1; simp at this
 | x :: es, e :: l, i, r, he, h => by
   obtain ⟨b, hb, h1⟩ := bind_inv (show ((eqKs ks key x.1).bind fun b => if b = true then some (some (i, x.2)) else findE ks key es (i + 1)) = some r from h)
   obtain ⟨e1, e2⟩ := he.2 0 e x rfl rfl
   have hq : (Op.equal kt (valC P kt key) e.key).run P w = .ok b w := by
     rw [e1, keyV_valC]
     exact equalIn_ok 12 10000 kt ks (by omega) hk w key x.1 b hb
   unfold Instr.findAsking
   simp only [Sem.run_bind, hq, Result.andThen_ok]
   cases b with
   | true =>
     simp only [if_true] at h1 ⊢
     obtain rfl := Option.some.inj h1
     exact ⟨some (i, e.val), rfl, rfl, Nat.le_refl _, e2, e, x.1, by simp, by simp, rfl⟩
   | false =>
     simp only [Bool.false_eq_true, if_false] at h1 ⊢
     obtain ⟨q, hq1, hq2⟩ := findAsking_ok hk es l (i + 1) r he.tail h1
     exact ⟨q, hq1, hq2.step⟩
theorem findNow_ok {ks : List SK} {kt : TypeId} {td : TypeDesc} (hu : P.underlying kt = some td) (hk : leafS P 12 kt = some ks) {k : Cfg} {w : World} {key : List Value} : ∀ (es : List (List Value × AV)) (l : List MapEntry) (i : Nat) (r : Option (Nat × AV)), EntsOk (isAggT P kt) k w es l → findE ks key es i = some r →
   Instr.findNow td (valC P kt key) l i = none ∨ ∃ q, Instr.findNow td (valC P kt key) l i = some q ∧ FoundOk k w i es l r q
 | [], [], i, r, _, h => by
   simp [findE] at h; subst h
   exact .inr ⟨none, rfl, trivial⟩
 | [], e :: l, i, r, he, _ => by have := he.1; simp at this
 | x :: es, [], i, r, he, _ => by have := he.1; simp at this
 | x :: es, e :: l, i, r, he, h => by
   obtain ⟨b, hb, h1⟩ := bind_inv (show ((eqKs ks key x.1).bind fun b => if b = true then some (some (i, x.2)) else findE ks key es (i + 1)) = some r from h)
   obtain ⟨e1, e2⟩ := he.2 0 e x rfl rfl
   have hs : Instr.sameNow td (valC P kt key) e.key = none ∨ Instr.sameNow td (valC P kt key) e.key = some b := by
     rw [e1, keyV_valC]
     unfold leafS at hk
     rw [hu] at hk
     cases td with
     | int q =>
       dsimp only at hk
       split at hk
       · obtain rfl := Option.some.inj hk
         obtain ⟨l1, l2⟩ := eqKs_len hb
         match key, l1, hb with
         | [u], _, hb =>
           generalize hx1 : x.1 = x1 at hb l2
           match x1, l2 with
           | [v], _ =>
             unfold eqKs at hb
             split at hb <;> first | (cases hb; done) | skip
             all_goals first
               | (rename_i h1 h2 h3; cases h1; done)
               | skip
             rename_i h1 h2 h3
             cases h1; cases h2; cases h3
             split at hb
             · rename_i hkk
               subst hkk
               simp [eqKs] at hb
               right
               subst hb
               unfold valC; rw [hu]
               simp [Instr.sameNow]
             · cases hb
       · cases hk
     | string =>
       dsimp only at hk
       split at hk
       · obtain rfl := Option.some.inj hk
         obtain ⟨l1, l2⟩ := eqKs_len hb
         match key, l1, hb with
         | [u], _, hb =>
           generalize hx1 : x.1 = x1 at hb l2
           match x1, l2 with
           | [v], _ =>
             unfold eqKs at hb
             split at hb <;> first | (cases hb; done) | skip
             all_goals first
               | (rename_i h1 h2 h3; cases h1; done)
               | skip
             rename_i h1 h2 h3
             cases h1; cases h2; cases h3
             simp [eqKs] at hb
             right
             subst hb
             unfold valC; rw [hu]
             simp [Instr.sameNow, beq_toListBytes]
       · cases hk
     | bool =>
       dsimp only at hk
       split at hk
       · obtain rfl := Option.some.inj hk
         obtain ⟨l1, l2⟩ := eqKs_len hb
         match key, l1, hb with
         | [u], _, hb =>
           generalize hx1 : x.1 = x1 at hb l2
           match x1, l2 with
           | [v], _ =>
             unfold eqKs at hb
             split at hb <;> first | (cases hb; done) | skip
             all_goals first
               | (rename_i h1 h2 h3; cases h1; done)
               | skip
             rename_i h1 h2 h3
             cases h1; cases h2; cases h3
             simp [eqKs] at hb
             right
             subst hb
             unfold valC; rw [hu]
             simp [Instr.sameNow]
       · cases hk
     | _ => exact .inl rfl
   unfold Instr.findNow
   rcases hs with hs | hs
   · rw [hs]; exact .inl rfl
   · rw [hs]
     cases b with
     | true =>
       simp only [if_true] at h1
       obtain rfl := Option.some.inj h1
       exact .inr ⟨_, rfl, rfl, Nat.le_refl _, e2, e, x.1, by simp, by simp, rfl⟩
     | false =>
       simp only [Bool.false_eq_true, if_false] at h1
       rcases findNow_ok hu hk es l (i + 1) r he.tail h1 with h2 | ⟨q, h2, h3⟩
       · exact .inl h2
       · exact .inr ⟨q, h2, h3.step⟩
theorem findKey_ok {ks : List SK} {kt : TypeId} (hk : leafS P 12 kt = some ks) {k : Cfg} {w : World} {key : List Value} {es : List (List Value × AV)} {l : List MapEntry} {r : Option (Nat × AV)} (he : EntsOk (isAggT P kt) k w es l) (h : findE ks key es 0 = some r) :
   ∃ q, (Instr.findKey kt (valC P kt key) l).run P w = .ok q w ∧ FoundOk k w 0 es l r q := by
 cases hu : P.underlying kt with
 | none => unfold leafS at hk; rw [hu] at hk; cases hk
 | some td =>
   unfold Instr.findKey
   simp only [Sem.run_bind, run_underlying hu, Result.andThen_ok]
   rcases findNow_ok hu hk es l 0 r he h with h1 | ⟨q, h1, h2⟩
   · rw [h1]; exact findAsking_ok hk es l 0 r he h
   · rw [h1]; exact ⟨q, rfl, h2⟩
end
end Go.Bb
