/-
  Part MT0 of this claim's proof. Joined by merge.py from the texts of wip/tpl.
-/
import Derived.Test.YtclholnhkhjjaaaGreatGBC
import Derived.Test.YtclholnhkhjjaaaGreatGBD
set_option linter.unusedVariables false
set_option linter.unusedSimpArgs false
set_option linter.unnecessarySimpa false
namespace Go.Proofs.Lg
open Go Go.RowKit Go.Shelf
theorem wpIn_region_E {P : Program} {lp n : Nat} {Q : Exit → Act → World → Prop} {id : Nat} {a : Act} {w : World} {l : List Oper} (C : World → Prop) (ex : Nat) (hm : P.follows .mixedOrders = true)
   (hlo : ¬ LetsOut Q) (hnd : noDefer l = true) (h : wpE P l.toArray Q C ex l.length (Array.replicate l.length false) a w.drew) : (Code.region id l.toArray true).wpIn (Fence.wide.inRound lp) n P Q a w := by
 refine wpIn_region_any hm (wpAnyIn_of_any hlo (fun i o c ho hc => ?_) _ _ _ _ (wpAny_of_E (C := C) (ex := ex) _ _ _ _ (by simpa using h)))
 have := List.all_eq_true.1 hnd o (by rw [List.getElem?_toArray] at ho; exact List.mem_of_getElem? ho)
 rw [hc] at this
 cases this
open Go.Ab (RD RDs KeepI)
theorem cellsIn_same {W W' : World} {b : Nat} (h : W'.heap[b]? = W.heap[b]?) : Go.Bb.cellsIn W' b = Go.Bb.cellsIn W b := by unfold Go.Bb.cellsIn; rw [h]
def fz (I : Nat → Nat) (m : Nat) (ex : Nat → Bool) (W : World) (b : Nat) : Nat := if b < m then I b else if ex b = true then 0 else Go.Bb.cellsIn W b
def exB (B : Nat) (v : Value) (b : Nat) : Bool := decide (b = B ∨ v.ownBlock = some b)
def exX (X : Nat) (v : Value) (ex : Nat → Bool) (b : Nat) : Bool := decide (b = X ∨ v.ownBlock = some b) || ex b
theorem exB_iff {B : Nat} {v : Value} {b : Nat} : exB B v b = true ↔ b = B ∨ v.ownBlock = some b := by unfold exB; rw [decide_eq_true_eq]
theorem exX_iff {X : Nat} {v : Value} {ex : Nat → Bool} {b : Nat} : exX X v ex b = true ↔ (b = X ∨ v.ownBlock = some b) ∨ ex b = true := by unfold exX; rw [Bool.or_eq_true, decide_eq_true_eq]
theorem fz_keep {I : Nat → Nat} {m : Nat} {ex ex' : Nat → Bool} {W W' : World} (h : ∀ b, b < W.heap.size → (b < m ∨ ex b = false) → W'.heap[b]? = W.heap[b]?) (hx : ∀ b, m ≤ b → b < W.heap.size → ex' b = true → ex b = true) : KeepI (fz I m ex W) W (fz I m ex' W') W' := by
 intro b o u ho hc
 have hb := cell_lt hc
 dsimp only at hb
 unfold fz at ho
 split at ho
 · rename_i hlt
   refine ⟨?_, (World.cell?_of_block (w := W) (h b hb (.inl hlt))).trans hc⟩
   unfold fz; rw [if_pos hlt]; exact ho
 · rename_i hlt
   split at ho
   · omega
   rename_i hn
   have e := h b hb (.inr (by simpa using hn))
   refine ⟨?_, (World.cell?_of_block (w := W) e).trans hc⟩
   unfold fz
   rw [if_neg hlt, if_neg (fun e2 => hn (hx b (by omega) hb e2)), cellsIn_same e]
   exact ho
theorem fz_putObj {I : Nat → Nat} {m l : Nat} {ex : Nat → Bool} {W : World} {o o' : Obj} (h : W.heap[l]? = some o) (h1 : o.isCells = false) : KeepI (fz I m ex W) W (fz I m ex (W.putObj l o')) (W.putObj l o') := by
 intro b q u ho hc
 have hbl : b ≠ l := by
   rintro rfl
   rw [World.cell?] at hc
   rw [h] at hc
   cases o <;> simp_all [Obj.isCells]
 have e : (W.putObj l o').heap[b]? = W.heap[b]? := World.putObj_heap_other hbl
 refine ⟨?_, (World.cell?_of_block (w := W) e).trans hc⟩
 unfold fz at ho ⊢
 rw [cellsIn_same e]; exact ho
theorem fz_big {I : Nat → Nat} {m : Nat} {ex ex' : Nat → Bool} {W W' : World} (hm : m ≤ W.heap.size) (hx : ∀ b, ex' b = true → b < W.heap.size ∧ ex b = true) (hb : Below W.heap.size W W') : KeepI (Go.Bb.bigI (fz I m ex W) W.heap.size W') W' (fz I m ex' W') W' := by
 intro b o u ho hc
 refine ⟨?_, hc⟩
 by_cases hlt : b < W.heap.size
 · rw [Go.Bb.bigI_lt _ _ hlt] at ho
   unfold fz at ho ⊢
   split at ho
   · rename_i h; rw [if_pos h]; exact ho
   rename_i h
   rw [if_neg h]
   split at ho
   · omega
   rename_i hn
   rw [if_neg (fun e => hn (hx b e).2), cellsIn_same (hb.block b hlt)]; exact ho
 · unfold fz
   rw [if_neg (by omega), if_neg (fun e => hlt (hx b e).1)]
   exact Go.Bb.lt_cellsIn hc
def TxtAt (ls : List Vtx) (gc : Array Value) (I : Nat → Nat) (w : World) (n₀ B : Nat) (xs : List (Value × Reg)) (W : World) : Prop :=
 W.heap[w.heap.size]? = some (.cells gc 25 (0, 0)) ∧
 (∃ (v : Value) (cs : List (List Value)), Boxed W B 52 v ∧ W.ownsRow n₀ 107 3 v cs.length cs.flatten ∧ cs.length = xs.length ∧ ∀ (i : Nat) (c : List Value) (x : Value × Reg), cs[i]? = some c → xs[i]? = some x → RDs (fz I w.heap.size (exB B v) W) W c (dTReg (treg ls x.2))) ∧ n₀ ≤ W.heap.size ∧ Below w.heap.size w W
theorem txtAt_below {ls : List Vtx} {gc : Array Value} {I : Nat → Nat} {w : World} {n₀ B : Nat} {xs : List (Value × Reg)} {A C : World} (h : TxtAt ls gc I w n₀ B xs A) (hb : Below A.heap.size A C) : TxtAt ls gc I w n₀ B xs C := by
 obtain ⟨hgc, ⟨v, cs, hv, hrow, hl, hcs⟩, hn, h0⟩ := h
 exact ⟨(hb.block _ (Array.getElem?_eq_some_iff.1 hgc).1).trans hgc, ⟨v, cs, (hb.block _ hv.lt).trans hv, ownsRow_below hrow hb, hl, fun i c x hc hx => (hcs i c x hc hx).mono (fz_keep (fun b hb' _ => hb.block b hb') fun _ _ _ h => h)⟩, Nat.le_trans hn hb.size, h0.trans (hb.mono h0.size)⟩
theorem steady_txtAt {ls : List Vtx} {gc : Array Value} {I : Nat → Nat} {w : World} {n₀ B B' : Nat} (hB : B < B') (hw : w.heap.size ≤ B') (xs : List (Value × Reg)) : Steady B' (TxtAt ls gc I w n₀ B xs) := fun W l o o' hl h h1 h2 hk => by
 obtain ⟨hgc, ⟨v, cs, hv, hrow, hln, hcs⟩, hn, h0⟩ := hk
 have g := grownBy_putObj' W l o'
 have hgl : w.heap.size ≠ l := by rintro rfl; rw [hgc] at h; cases h; simp [Obj.isCells] at h1
 exact ⟨(World.putObj_heap_other hgl).trans hgc, ⟨v, cs, hv.kept g (fun e => by have := Option.some.inj e; omega), ownsRow_putObj hrow o' h h1, hln, fun i c x hc hx => (hcs i c x hc hx).mono (fz_putObj h h1)⟩, Nat.le_trans hn g.size, h0.grown g h0.size (fun k e => by have := Option.some.inj e; omega)⟩
theorem linTexts_mem {g : Gr} (hg : GrOk g) {l : List Nat} (hl : ∀ j ∈ l, j < g.lines.length) (hll : l.length ≤ 1000000) {F : Nat → Nat} {W : World} {gv lv : Value} {e0 : TypeId} (h1 : RD F W gv (dGraph g)) (h2 : W.ownsRow 0 e0 1 lv l.length (ints (nats l))) :
   Calls Tryz.prog 58 #[gv, lv] W fun e W' => ∃ v, e = .returned v ∧ RD (Go.Bb.bigI F W.heap.size W') W' v (dStrs (txtL g.lines l)) ∧ Below W.heap.size W W' := by
 have hIc : ∃ Ic : Nat → Nat, Ic = fun b => if lv.ownBlock = some b then max (F b) l.length else F b := ⟨_, rfl⟩
 obtain ⟨Ic, hIc⟩ := hIc
 have hF : KeepI F W Ic W := fun b o u ho hc => ⟨by rw [hIc]; dsimp only; split <;> omega, hc⟩
 have hcell : ∀ k, lv.ownBlock = some k → ∀ i u, (ints (nats l))[i]? = some u → W.cell? ⟨k, i, none⟩ = some u := by
   intro k hk i u hu
   obtain ⟨a, c, hv, _, _, h3⟩ := ownsRow_slAt h2
   rcases h2.2 with ⟨h, h0⟩ | ⟨gb, cap, cur, h, _, hgb, hr⟩
   · rw [h] at hk; simp [Value.ownBlock] at hk
   · rw [h] at hk
     obtain rfl : gb = k := by simpa [Value.ownBlock] using hk
     have hne : ints (nats l) ≠ [] := fun e => by rw [e] at hu; simp at hu
     obtain ⟨b, off, ha, hcc⟩ := h3 hne
     rw [hv] at h
     injection h with e1 _ _
     rw [ha] at e1
     have e2 := Option.some.inj e1
     injection e2 with e3 e4 _
     subst e3 e4
     simpa using hcc i u hu
 have hlv : RD Ic W lv (dNats l) := by
   obtain ⟨a, c, hv, k1, k2, k3⟩ := ownsRow_slAt h2
   have hlen : (ints (nats l)).length = l.length := by rw [ints_length, nats_length]
   rw [hv]
   refine Go.Ab.RD.sl_mk (us := ints (nats l)) (by rw [List.length_map, hlen]) (fun r hr => by obtain ⟨x, _, rfl⟩ := List.mem_map.1 hr; rfl) k1 k2 (by rw [flat_nrow]; exact Go.Proofs.Lh.RDs_scs (Go.Proofs.Lh.ints_one l)) fun hne => ?_
   have hne' : ints (nats l) ≠ [] := fun e => by rw [e] at hlen; exact hne (by rw [List.eq_nil_of_length_eq_zero hlen.symm]; rfl)
   rcases h2.2 with ⟨h, h0⟩ | ⟨gb, cap, cur, h, _, hgb, hr⟩
   · rw [h] at hv; injection hv with _ e2 _; rw [hlen] at e2; exact absurd (List.eq_nil_of_length_eq_zero (hlen.trans e2.symm)) hne'
   · have hkb : lv.ownBlock = some gb := by rw [h]; rfl
     rw [hv] at h
     injection h with e1 _ _
     refine ⟨gb, 0, e1, fun i u hu => ⟨?_, by rw [Nat.zero_add]; exact hcell gb hkb i u hu⟩⟩
     have hi := (List.getElem?_eq_some_iff.1 hu).1
     rw [hIc]; dsimp only
     rw [if_pos hkb]; omega
 refine ((linTexts_fn hg hl hll).calls Ic W [gv, lv] rfl fun i v d hv hd => ?_).mono ?_
 · match i with
   | 0 => simp at hv hd; subst hv hd; exact h1.mono hF
   | 1 => simp at hv hd; subst hv hd; exact hlv
   | i + 2 => simp at hv
 · rintro e W' ⟨v, rfl, hv, hb⟩
   refine ⟨v, rfl, ?_, hb⟩
   obtain ⟨a, c, us, rfl, k2, k3, k4, k5, k6⟩ := Go.Ab.RD.sl_inv hv
   have hsc : RDs (Go.Bb.bigI F W.heap.size W') W' us ((txtL g.lines l).map strow).flatten := by
     have e1 : ((txtL g.lines l).map strow).flatten = ((txtL g.lines l).map Value.string).map Go.Ab.D.sc := by
       generalize txtL g.lines l = L
       induction L with
       | nil => rfl
       | cons x L ih => rw [List.map_cons, List.flatten_cons, ih]; rfl
     rw [e1] at k5 ⊢
     rw [RDs_sc k5]
     exact Go.Proofs.Lh.RDs_scs fun u hu => by obtain ⟨s, _, rfl⟩ := List.mem_map.1 hu; rfl
   refine Go.Ab.RD.sl_mk rfl k2 k3 k4 hsc fun hne => ?_
   obtain ⟨b, off, ha, hc⟩ := k6 hne
   refine ⟨b, off, ha, fun i u hu => ⟨?_, (hc i u hu).2⟩⟩
   have h0 := (hc i u hu).1
   by_cases hlt : b < W.heap.size
   · rw [Go.Bb.bigI_lt _ _ hlt] at h0 ⊢
     rw [hIc] at h0
     dsimp only at h0
     split at h0
     · rename_i hk
       by_cases hFb : off + i < F b
       · exact hFb
       · exfalso
         have hil : off + i < l.length := by omega
         have hlen : (ints (nats l)).length = l.length := by rw [ints_length, nats_length]
         have hx := hcell b hk (off + i) ((ints (nats l))[off + i]'(by omega)) (List.getElem?_eq_getElem (by omega))
         have hx' := below_cell hb hx
         have hy := (hc i u hu).2
         rw [hx'] at hy
         have e1 : ((txtL g.lines l).map strow).flatten = ((txtL g.lines l).map Value.string).map Go.Ab.D.sc := by
           generalize txtL g.lines l = L
           induction L with
           | nil => rfl
           | cons x L ih => rw [List.map_cons, List.flatten_cons, ih]; rfl
         rw [e1] at k5
         have hus := RDs_sc k5
         rw [hus, List.getElem?_map] at hu
         obtain ⟨s, _, rfl⟩ := Option.map_eq_some_iff.1 hu
         have e3 := Option.some.inj hy
         have e4 : (ints (nats l))[off + i]'(by omega) ∈ ints (nats l) := List.getElem_mem _
         rw [e3] at e4
         unfold ints at e4
         obtain ⟨z, _, hz⟩ := List.mem_map.1 e4
         cases hz
     · exact h0
   · unfold Go.Bb.bigI at h0 ⊢
     rw [if_neg hlt] at h0 ⊢
     exact h0
theorem reg_in {g : Gr} {r : Reg} (hr : r ∈ regionsL g.reach g.living) : ∀ i ∈ r.all, i < g.lines.length := fun i hi => by
 have h1 : i ∈ seqL g.reach g.living := by unfold seqL; exact List.mem_flatMap.2 ⟨r, hr, hi⟩
 have h2 := g.living_lt i ((seqL_perm g.lv).mem_iff.1 h1)
 have h3 := g.dim_le
 omega
theorem flat_tsrow (f : List Nat → List ByteArray) : ∀ l : List (List Nat), ((l.map f).map tsrow).flatten = l.map fun s => dStrs (f s)
 | [] => rfl
 | s :: l => by rw [List.map_cons, List.map_cons, List.flatten_cons, flat_tsrow f l]; rfl
theorem RD_of_SlRI {I : Nat → Nat} {w : World} {v : Value} {sz : Nat} {cs : List (List Value)} {rows : List (List Go.Ab.D)} (h : SlN w v sz cs) (hI : ∀ b o u, v.ownBlock = some b → w.cell? ⟨b, o, none⟩ = some u → o < I b) (hl : cs.length = rows.length) (hsz : 0 < sz)
   (hr : ∀ (i : Nat) (c : List Value) (r : List Go.Ab.D), cs[i]? = some c → rows[i]? = some r → c.length = sz ∧ RDs I w c r) : RD I w v (.sl sz rows) := by
 obtain ⟨a, c, rfl, h3, h4, h6⟩ := h
 have hcl : ∀ r ∈ cs, r.length = sz := fun r hm => by
   obtain ⟨i, hi, rfl⟩ := List.mem_iff_getElem.1 hm
   exact (hr i cs[i] (rows[i]'(by omega)) (List.getElem?_eq_getElem hi) (List.getElem?_eq_getElem (by omega))).1
 have hrl : ∀ r ∈ rows, r.length = sz := fun r hm => by
   obtain ⟨i, hi, rfl⟩ := List.mem_iff_getElem.1 hm
   obtain ⟨k1, k2⟩ := hr i (cs[i]'(by omega)) rows[i] (List.getElem?_eq_getElem (by omega)) (List.getElem?_eq_getElem hi)
   rw [← k2.1, k1]
 refine Go.Ab.RD.sl_mk hl.symm hrl h3 h4 (Go.Proofs.Lh.RDs_flatten hl fun i c r h1 h2 => (hr i c r h1 h2).2) fun hne => ?_
 obtain ⟨b, off, ha, hc⟩ := h6 (fun e => by rw [e] at hl; exact hne (List.eq_nil_of_length_eq_zero hl.symm))
 subst ha
 refine ⟨b, off, rfl, fun i u hu => ?_⟩
 have hi : i < cs.length * sz := by rw [← Go.Ab.flatten_len cs hcl]; exact (List.getElem?_eq_some_iff.1 hu).1
 have hq : i / sz < cs.length := Nat.div_lt_of_lt_mul (by rw [Nat.mul_comm]; exact hi)
 have hrow := Go.Ab.flatten_row cs hcl (i / sz) cs[i / sz] (List.getElem?_eq_getElem hq)
 have hm : i % sz < sz := Nat.mod_lt _ hsz
 have hdm : i / sz * sz + i % sz = i := by rw [Nat.mul_comm]; exact Nat.div_add_mod i sz
 have hx : cs[i / sz][i % sz]? = some u := by
   rw [← hrow, List.getElem?_take, if_pos hm, List.getElem?_drop, hdm]; exact hu
 have := hc (i / sz) _ (List.getElem?_eq_getElem hq) (i % sz) u hx
 rw [Nat.add_assoc, hdm] at this
 exact ⟨hI b _ u rfl this, this⟩
end Go.Proofs.Lg
