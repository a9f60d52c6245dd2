/-
  Part GAU of this claim's proof. Joined by merge.py from the texts of wip/tpl.
-/
import Derived.WalkKit
import Derived.OwnWalkIn
import Derived.TacticsInMore
import Derived.LoopNIn
import Derived.LoopIn
import Derived.Maps.AppendAt
import Derived.Maps.OwnIn
import Derived.Test.YtclholnhkhjjaaaGreatGAT
import Derived.Maps.OwnRows
set_option linter.unusedVariables false
set_option linter.unusedSimpArgs false
set_option linter.unnecessarySimpa false
namespace Go.Proofs.Lg
open Go Go.RowKit Go.Shelf Go.Maps
attribute [local go_sem] Oper.semAt_some
def regCells : Value → List Value
 | .agg a => a.toList
 | _ => []
theorem KeepsK.putObj {A : World} {l : Nat} {o o' : Obj} (h : A.heap[l]? = some o) (h1 : o.isCells = false) (h2 : o.isWalk = false) : KeepsK A (A.putObj l o') :=
 KeepsK.of_grown (grownBy_putObj' A l o') (fun r o1 e hr hp => by
   cases e
   rw [h] at hr
   cases hr
   cases o <;> simp_all [PlainObj, Obj.isCells, Obj.isWalk])
theorem steady_keepsR {n₀ B B' : Nat} (hn : n₀ ≤ B') (hB : B < B') (A : World) : Steady B' (KeepsR n₀ B A) := fun _ _ _ _ hl h h1 h2 hk =>
 hk.trans (KeepsR.putObj (Nat.le_trans hn hl) (by omega) h h1 h2)
theorem steady_regAt {B : Nat} (v : Value) (r : Reg) : Steady B (fun W => RegAt W v r) := fun _ _ _ _ _ h h1 h2 hk => hk.keepsK (KeepsK.putObj h h1 h2)
theorem steady_regOk {B : Nat} (v : Value) (r : Reg) : Steady B (fun W => RegOk W v r) := fun W l o o' hl h h1 h2 hk => ⟨steady_regAt (B := B) v r W l o o' hl h h1 h2 hk.1, hk.2⟩
theorem RegOk.below {W W' : World} {v : Value} {r : Reg} (h : RegOk W v r) (hb : Below W.heap.size W W') : RegOk W' v r := ⟨h.1.below hb, h.2⟩
def RegsAt (w0 : World) (B : Nat) (xs : List (Value × Reg)) (W : World) : Prop :=
 (∃ v, Boxed W B 32 v ∧ W.ownsRow w0.heap.size 45 3 v xs.length (xs.flatMap fun x => regCells x.1)) ∧ (∀ x ∈ xs, RegAt W x.1 x.2) ∧ Below w0.heap.size w0 W
theorem steady_regsAt (w0 : World) (B B' : Nat) (hB : w0.heap.size ≤ B') (xs : List (Value × Reg)) : Steady B' (RegsAt w0 B xs) := fun W l o o' hl h h1 h2 hk => by
 obtain ⟨⟨v, hv, hrow⟩, hr, hb⟩ := hk
 have hlt := (Array.getElem?_eq_some_iff.1 h).1
 refine ⟨⟨v, ?_, ownsRow_putObj hrow o' h h1⟩, fun x hx => steady_regAt (B := B') _ _ W l o o' hl h h1 h2 (hr x hx), hb.grown (grownBy_putObj' W l o') hb.size (fun k e => by cases e; omega)⟩
 refine hv.kept (grownBy_putObj' W l o') (fun e => ?_)
 obtain rfl := Option.some.inj e
 rw [show W.heap[B]? = _ from hv] at h
 cases h
 simp [Obj.isCells] at h1
theorem regsAt_below {w0 : World} {B : Nat} {xs : List (Value × Reg)} {A C : World} (h : RegsAt w0 B xs A) (hb : Below A.heap.size A C) : RegsAt w0 B xs C := by
 obtain ⟨⟨v, hv, hrow⟩, hr, hb0⟩ := h
 refine ⟨⟨v, (hb.block _ hv.lt).trans hv, ?_⟩, fun x hx => (hr x hx).below hb, hb0.trans (hb.mono hb0.size)⟩
 refine ⟨hrow.1, ?_⟩
 rcases hrow.2 with h2 | ⟨g, cap, cur, hv', hbg, hg, h3⟩
 · exact .inl h2
 · exact .inr ⟨g, cap, cur, hv', hbg, (hb.block _ (Array.getElem?_eq_some_iff.1 hg).1).trans hg, h3⟩
theorem info_Region : (Tryz.prog.info? 45).map (fun i => (i.zero, i.size, i.bytes)) = some (some (.agg #[.bool false, .slice none 0 0, .slice none 0 0]), 3, 56) := by kernel_rfl
set_option maxRecDepth 100000 in
set_option maxHeartbeats 4000000 in
theorem appendSeqRegion_in (F : Fence) (n : Nat) (gf : Nat) (lb : Array Value) (h3 : F.fn 81) (hgf : F.fn gf) (hro : F.round = none) (hn : 3 ≤ n) (spec : List Reg) (N : Nat) (hN : N ≤ 2000010) (w : World)
   (eg : ∀ args w, (callFunc gf args).run Tryz.prog w = .ok (.enter gf args) w)
   (hseq : SeqTold F (n - 1) Tryz.prog gf lb (fun x : Value × Reg => #[x.1]) (fun x W => RegOk W x.1 x.2) (KeepsR w.heap.size w.heap.size) (fun xs => xs.map (·.2) = spec) N (w.alloc (.cells #[.slice none 0 0] 32))) :
   CallsIn F n Tryz.prog 81 #[.slice none 0 0, .func (.func gf) #[] lb] w fun e W' => ∃ v, e = .returned v ∧ ∃ xs : List (Value × Reg), xs.map (·.2) = spec ∧ W'.ownsRow w.heap.size 45 3 v xs.length (xs.flatMap fun x => regCells x.1) ∧ (∀ x ∈ xs, RegAt W' x.1 x.2) ∧ Below w.heap.size w W' := by
 have h1 : 1 ≤ n := by omega
 obtain ⟨i0, hi, hz0, hz1, hz2⟩ := info_parts info_Region
 refine callsIn_of_wp_marks Tryz.func81 rfl h3 ?_ hro
 simp only [Tryz.ntmps81, List.size_toArray, List.length_cons, List.length_nil, Nat.reduceAdd, Nat.reduceSub, Array.replicate_succ, Array.replicate_zero, List.push_toArray, List.append_toArray, List.nil_append, List.cons_append]
 gi_wp2
 have bO := Boxed.new w 32 (.slice none 0 0)
 have hB0 : Below w.heap.size w (w.alloc (.cells #[.slice none 0 0] 32)) := (Below.refl _ w).alloc (Nat.le_refl _) _
 refine wpIn_rangeFunc_told hro h1 (gf := gf) (lb := lb) rfl hgf eg hseq (Below.refl _ _) (fun _ => rfl)
   (fun xs W => RegsAt w w.heap.size xs W) (fun xs A B h hb => regsAt_below h hb) (fun xs => steady_regsAt w _ _ (by simp) xs) (fun x => steady_regOk _ _) KeepsR.trans (fun A => steady_keepsR (by simp) (by simp) A) (KeepsR.refl _ _)
   ⟨⟨_, bO, World.ownsRow_nil _ _ _ _⟩, (fun x hx => by cases hx), hB0⟩
   (fun x a' W => ∃ Bx, W.heap[Bx]? = some (.cells (regCells x.1).toArray 45 (0, 0)) ∧ a' = { tmps := #[.slice none 0 0, .func (.func gf) #[] lb, .pointer (some ⟨w.heap.size, 0, none⟩), undef, .slice none 0 0, .pointer (some ⟨Bx, 0, none⟩), .func (.func gf) #[] lb, x.1, undef, undef, undef, undef, undef], defers := [] })
   (fun x a' A l o o' hl h h1 h2 ⟨Bx, hb, ha⟩ => ⟨Bx, by rw [World.putObj_heap_other (by rintro rfl; rw [hb] at h; cases h; simp [Obj.isCells] at h1)]; exact hb, ha⟩) ?assign ?body ?done
 case assign =>
   rintro l pre ⟨x, r⟩ W K hI hT hK
   obtain ⟨vl, vs, us, hx, k1, k2, k3⟩ := hT.1
   dsimp only at hx
   obtain ⟨a1, c1, hv1⟩ := ownsRow_form k1
   obtain ⟨a2, c2, hv2⟩ := ownsRow_form k2
   dsimp only at hv1
   clear k1 k2 k3
   obtain ⟨cb, hcb⟩ : ∃ cb, r.conflict = cb := ⟨_, rfl⟩
   obtain ⟨nl, hnl⟩ : ∃ nl, r.lines.length = nl := ⟨_, rfl⟩
   rw [hnl] at hv1
   rw [hv1, hv2, hcb] at hx
   have HI := Lib.hid hI
   have HT := Lib.hid hT
   clear hI hT hv1 hv2 hcb hnl
   subst hx
   gi_wp2
   have hba : Below W.heap.size W (W.alloc (.cells #[.bool cb, .slice a1 nl c1, .slice a2 us.length c2] 45)) := (Below.refl _ _).alloc (Nat.le_refl _) _
   exact hK _ _ ((KeepsOthers.alloc _ _).from _) (KeepsR.of_below HI.out.2.2.size (HI.out.1.elim fun _ h => h.1.lt) hba) (regsAt_below HI.out hba) (HT.out.below hba) ⟨W.heap.size, World.alloc_heap_new W _, rfl⟩
 case body =>
   rintro l pre ⟨x, r⟩ a' W hI hT ⟨Bx, hbx, rfl⟩ hlt
   obtain ⟨vl, vs, us, hx, k1, k2, k3⟩ := hT.1
   dsimp only at hx
   obtain ⟨a1, c1, hv1⟩ := ownsRow_form k1
   obtain ⟨a2, c2, hv2⟩ := ownsRow_form k2
   dsimp only at hv1
   clear k1 k2 k3
   obtain ⟨cb, hcb⟩ : ∃ cb, r.conflict = cb := ⟨_, rfl⟩
   obtain ⟨nl, hnl⟩ : ∃ nl, r.lines.length = nl := ⟨_, rfl⟩
   rw [hnl] at hv1
   rw [hv1, hv2, hcb] at hx
   clear hv1 hv2 hcb hnl
   subst hx
   have q0 : W.cell? ⟨Bx, 0, none⟩ = some (.bool cb) := by rw [cell_of_heap hbx]; rfl
   have q1 : W.cell? ⟨Bx, 1, none⟩ = some (.slice a1 nl c1) := by rw [cell_of_heap hbx]; rfl
   have q2 : W.cell? ⟨Bx, 2, none⟩ = some (.slice a2 us.length c2) := by rw [cell_of_heap hbx]; rfl
   have hbxl := cell_lt q0
   obtain ⟨⟨v, hv, hrow⟩, hr, hB⟩ := hI
   have hc := hv.cell
   have hlv := hv.lt
   have hnews : ∀ j u, [Value.bool cb, .slice a1 nl c1, .slice a2 us.length c2][j]? = some u → (W.alloc (.cells #[.bool cb, .slice a1 nl c1, .slice a2 us.length c2] 45)).cell? (Addr.add ⟨W.heap.size, 0, none⟩ j) = some u := by
     intro j u hu
     rw [Addr.add_mid, Nat.zero_add]
     match j, hu with
     | 0, hu => simp at hu; subst hu; simp [go_sem]
     | 1, hu => simp at hu; subst hu; simp [go_sem]
     | 2, hu => simp at hu; subst hu; simp [go_sem]
     | j + 3, hu => simp at hu
   have HT := Lib.hid hT
   have HR := Lib.hid hr
   have HNW := Lib.hid hnews
   have hlt' : pre.length < N := hlt
   clear hT hr hbx hnews
   gi_wp2_with (gi_at_builtin; refine wpListIn_append_own_at _ rfl _ _ 32 rfl w.heap.size 45 i0 (.agg #[.bool false, .slice none 0 0, .slice none 0 0]) 3 56 Tryz.underlying32 hi hz0 hz1 hz2 rfl (by decide) _ _ _ rfl (hrow.alloc _) ⟨W.heap.size, 0, none⟩ 1 1 [.bool cb, .slice a1 nl c1, .slice a2 us.length c2] rfl rfl HNW.out (by simp [Value.oneCell']) (by unfold maxLen; omega) (by omega) (by have := hB.size; simp; omega) ?_; intro v' w1 hown' hgrow _ hloc; obtain ⟨g', cap', rfl⟩ := ownsRow_succ hown'; obtain ⟨hv1, hv2, hr2, hk2, hb2⟩ := hv.appended (by decide) hrow hB.size (Nat.le_refl _) hown' hgrow; have hc1 := hv1.cell; have hf1 := hv1.frozen)
   have hgrow2 : (W.alloc (.cells #[.bool cb, .slice a1 nl c1, .slice a2 us.length c2] 45)).grownBy w1 v.ownBlock := hgrow
   have hkk : KeepsK W (w1.setCell ⟨w.heap.size, 0, none⟩ (.slice (some ⟨g', 0, none⟩) (pre.length + 1) cap')) := by
     refine (KeepsK.of_below ((Below.refl _ _).alloc (Nat.le_refl _) (.cells #[.bool cb, .slice a1 nl c1, .slice a2 us.length c2] 45))).trans ((KeepsK.of_grown hgrow2 fun r o e hr hp => ?_).trans (KeepsK.of_grown (grownBy_setCell' w1 w.heap.size _) fun r o e hr hp => ?_))
     · rcases (hrow.alloc (.cells #[.bool cb, .slice a1 nl c1, .slice a2 us.length c2] 45)).2 with ⟨rfl, _⟩ | ⟨g, cap, cur, rfl, _, hgb, _⟩
       · simp [Value.ownBlock] at e
       · obtain rfl : g = r := by simpa [Value.ownBlock] using e
         rw [hgb] at hr
         cases hr
         exact absurd rfl hp.1
     · obtain rfl := Option.some.inj e
       rw [show w1.heap[w.heap.size]? = _ from hv1] at hr
       cases hr
       exact absurd rfl hp.2
   have hkr : KeepsR w.heap.size w.heap.size W (w1.setCell ⟨w.heap.size, 0, none⟩ (.slice (some ⟨g', 0, none⟩) (pre.length + 1) cap')) :=
     KeepsR.appended hv hB.size (hv.not_row (by decide) hrow) (grownBy_trans' (World.grownBy_alloc _ _ _) hgrow2) (hloc.imp id fun h g e => by rw [h] at e; have := Option.some.inj e; simp at this; omega)
   refine ⟨hk2.from _, hkr, ⟨_, hv2, by simpa [regCells] using hr2⟩, fun y hy => ?_, hB.trans hb2⟩
   rcases List.mem_append.1 hy with h | h
   · exact (HR.out y h).keepsK hkk
   · obtain rfl := List.mem_singleton.1 h
     exact HT.out.1.keepsK hkk
 case done =>
   rintro D ys W hD hS ⟨⟨v, hv, hrow⟩, hr, hB⟩ hK
   have hc := hv.cell
   gi_wp2
   refine ⟨by simp, .inl ⟨_, _, rfl, run_takeDeferred hK, ?_⟩⟩
   exact ⟨_, results_tmp rfl _ _ _, v, rfl, ys, hS, ownsRow_putObj hrow _ hK rfl, fun x hx => (hr x hx).keepsK (KeepsK.putObj hK rfl rfl), hB.trans (belowK_b (w := w) (Nat.le_refl _) W D _ _ (by simp at hD; omega) hK rfl rfl)⟩
end Go.Proofs.Lg

namespace Go.Proofs.Lg
open Go Go.RowKit Go.Shelf Go.Maps
def grpD (l : List Nat) : DataW Unit := if l = [] then .nil else .slice (ChangeShapes.lits .i64 (nats l)) []
theorem lits_inj {xs ys : List Int} (h : (ChangeShapes.lits .i64 xs : List (DataW Unit)) = ChangeShapes.lits .i64 ys) : xs = ys := by
 unfold ChangeShapes.lits at h
 exact (List.map_inj_right (fun a b hab => by simpa using hab)).1 h
theorem nats_nil {l : List Nat} (h : nats l = []) : l = [] := by
 cases l with
 | nil => rfl
 | cons x l => simp [nats] at h
theorem grp_zs {w : World} {base : Nat} {e : TypeId} {v : Value} {zs : List Int} {l : List Nat} (h : w.ownsInts base e .i64 v zs) (hd : (rowDatum .i64 v zs : DataW Unit) = grpD l) : zs = nats l := by
 rcases h.datum (H := Unit) with ⟨h1, rfl⟩ | h1
 · rw [h1] at hd
   unfold grpD at hd
   split at hd
   · rename_i hl; rw [hl]; rfl
   · cases hd
 · rw [h1] at hd
   unfold grpD at hd
   split at hd
   · cases hd
   · injection hd with h2 _
     exact lits_inj h2
theorem grp_datum {w : World} {base : Nat} {e : TypeId} {v : Value} {l : List Nat} (h : w.ownsInts base e .i64 v (nats l)) (hl : l ≠ []) : (rowDatum .i64 v (nats l) : DataW Unit) = grpD l := by
 rw [h.datum_pos (fun e => hl (nats_nil e))]
 unfold grpD
 rw [if_neg hl]
theorem groups_look {w W' : World} {k e E t : TypeId} {base b n : Nat} {D : DataW Unit} {key : Value} {kl : Lit} (h : w.ownsGroups Tryz.prog k base e .i64 b n D) {n₀ B : Nat} (hk : KeepsR n₀ B w W') (ho : ∀ k, ownB B w k → k < base ∧ k ≠ b)
   (K : Keyed Tryz.prog k) (ht : Tryz.prog.underlying t = some (.map k E)) (hz : (zeroValue E).run Tryz.prog W' = .ok (.slice none 0 0) W') (hkey : keyOf Tryz.prog k key = some kl) :
   ∃ v zs, (Instr.lookup t (.map (some b)) key false).run Tryz.prog W' = .ok v W' ∧ D.atKey kl .nil = rowDatum .i64 v zs ∧ w.ownsInts base e .i64 v zs ∧ W'.ownsRow base e 1 v zs.length (ints zs) := by
 obtain ⟨es, clock, hb, F, hs, rfl, hbb, hlen, hap⟩ := h
 have hb' := hk.block b _ hb trivial (fun hc => (ho b hc).2 rfl)
 rcases Maps.fit_look false K ht hz hb' F hkey with ⟨hrun, _, hat⟩ | ⟨e0, y, hm0, h3, hrun, hR, hat, _⟩
 · exact ⟨.slice none 0 0, [], hrun, hat _, World.ownsInts_nil _ _ _ _, World.ownsRow_nil _ _ _ _⟩
 · obtain ⟨zs, hoi, rfl⟩ := rowElem_inv hR
   exact ⟨e0.val, zs, hrun, hat _, hoi, ownsRow_keepsR hoi.1 hk (fun k hc => (ho k hc).1)⟩
def GapsAt (w : World) (b n : Nat) (f : Nat → Nat) (l : List Nat) : Prop :=
 ∃ D : DataW Unit, w.ownsGroups Tryz.prog 3 (b + 1) 3 .i64 b n D ∧ ∀ m : Nat, D.atKey (.int .i64 m) .nil = grpD (l.filter fun i => f i == m)
theorem GapsAt.made (w : World) (f : Nat → Nat) : GapsAt (w.alloc (.map #[] 0)) w.heap.size 0 f [] := ⟨.map [], World.ownsGroups_made w _ _ _ _, fun _ => rfl⟩
theorem GapsAt.look {w W' : World} {b n : Nat} {f : Nat → Nat} {l : List Nat} (h : GapsAt w b n f l) {n₀ B : Nat} (hk : KeepsR n₀ B w W') (ho : ∀ k, ownB B w k → k < b) {t : TypeId} (ht : Tryz.prog.underlying t = some (.map 3 29)) (m : Nat) (hm : m ≤ 1000000) :
   ∃ v, (Instr.lookup t (.map (some b)) (.int .i64 m) false).run Tryz.prog W' = .ok v W' ∧ W'.ownsRow (b + 1) 3 1 v (l.filter fun i => f i == m).length (ints (nats (l.filter fun i => f i == m))) := by
 obtain ⟨D, h1, h2⟩ := h
 have hz : (zeroValue 29).run Tryz.prog W' = .ok (.slice none 0 0) W' := by simp [go_sem]
 obtain ⟨v, zs, hrun, hat, hoi, hrow⟩ := groups_look h1 hk (fun k hc => by have := ho k hc; omega) (int_keyed under_int) ht hz (keyOf_int_mk under_int (wf_nat hm))
 rw [h2 m] at hat
 have hzs := grp_zs hoi hat.symm
 subst hzs
 rw [nats_length] at hrow
 exact ⟨v, hrun, hrow⟩
end Go.Proofs.Lg

namespace Go.Proofs.Lg
open Go Go.RowKit Go.Shelf Go.Maps
theorem gaps_put {w : World} {D : DataW Unit} {base : Nat} {v' : Value} {f : Nat → Nat} {l : List Nat} {i : Nat} (hD : IsMap D) (h2 : ∀ m : Nat, D.atKey (.int .i64 m) .nil = grpD (l.filter fun i => f i == m))
   (ho : w.ownsInts base 3 .i64 v' (nats (l.filter fun j => f j == f i) ++ [(i : Int)])) (m : Nat) :
   (D.put (.int .i64 (f i : Nat)) (rowDatum .i64 v' (nats (l.filter fun j => f j == f i) ++ [(i : Int)]))).atKey (.int .i64 m) .nil = grpD ((l ++ [i]).filter fun j => f j == m) := by
 have e1 : nats (l.filter fun j => f j == f i) ++ [(i : Int)] = nats ((l ++ [i]).filter fun j => f j == f i) := by simp [nats, List.filter_append]
 by_cases hm : m = f i
 · subst hm
   rw [atKey_put_same hD (by simp [WideAt.IsKeyLit])]
   rw [e1] at ho ⊢
   exact grp_datum ho (by simp [List.filter_append])
 · rw [atKey_put_other (by simp; omega), h2 m]
   congr 1
   have : (f i == m) = false := by simp; omega
   simp [List.filter_append, this]
end Go.Proofs.Lg
