/-
  Part GBB of this claim's proof. Joined by merge.py from the texts of wip/tpl.
-/
import Derived.Test.YtclholnhkhjjaaaGreatGBA
import Derived.Test.YtclholnhkhjjaaaGreatGAR
import Derived.Test.YtclholnhkhjjaaaGreatGAX
import Derived.Test.YtclholnhkhjjaaaGreatGAZ
import Derived.OrdersIn
import Derived.Test.YtclholnhkhjjaaaGreatGAB
import Derived.Lib.AppendZeros
import Derived.Test.YtclholnhkhjjaaaGreatGAC
set_option linter.unusedVariables false
set_option linter.unusedSimpArgs false
set_option linter.unnecessarySimpa false
namespace Go.Proofs.Lg
open Go Go.RowKit Go.Shelf
def RegVal (W : World) (c : List Value) (r : Reg) : Prop := ∃ vl vs, c = [.bool r.conflict, vl, vs] ∧ SlAt W vl (ints (nats r.lines)) ∧ SlOf W vs (r.sides.map fun s => ints (nats s))
def RegsIn (W : World) (v : Value) (regs : List Reg) : Prop := ∃ cs : List (List Value), SlN W v 3 cs ∧ cs.length = regs.length ∧ ∀ (i : Nat) (c : List Value) (r : Reg), cs[i]? = some c → regs[i]? = some r → RegVal W c r
theorem RegVal.below {W W' : World} {c : List Value} {r : Reg} (h : RegVal W c r) (hb : Below W.heap.size W W') : RegVal W' c r := by
 obtain ⟨vl, vs, hc, h1, h2⟩ := h
 exact ⟨vl, vs, hc, h1.below hb, h2.below hb⟩
theorem RegsIn.below {W W' : World} {v : Value} {regs : List Reg} (h : RegsIn W v regs) (hb : Below W.heap.size W W') : RegsIn W' v regs := by
 obtain ⟨cs, h1, h2, h3⟩ := h
 exact ⟨cs, h1.below hb, h2, fun i c r hc hr => (h3 i c r hc hr).below hb⟩
theorem RegsIn.form {W : World} {v : Value} {regs : List Reg} (h : RegsIn W v regs) : ∃ a m c, v = .slice a m c := by
 obtain ⟨cs, ⟨a, c, hv, _⟩, _⟩ := h
 exact ⟨a, _, c, hv⟩
theorem flatMap_get {α β : Type} (f : α → List β) (n : Nat) : ∀ (xs : List α) (i j : Nat) (x : α), (∀ y ∈ xs, (f y).length = n) → xs[i]? = some x → j < n → (xs.flatMap f)[i * n + j]? = (f x)[j]?
 | [], _, _, _, _, h, _ => by simp at h
 | y :: ys, 0, j, x, hf, h, hj => by
   simp at h; subst h
   rw [List.flatMap_cons, Nat.zero_mul, Nat.zero_add, List.getElem?_append_left (by rw [hf _ List.mem_cons_self]; exact hj)]
 | y :: ys, i + 1, j, x, hf, h, hj => by
   have hl := hf y List.mem_cons_self
   have e : (i + 1) * n = i * n + n := Nat.succ_mul i n
   rw [List.flatMap_cons, List.getElem?_append_right (by omega), hl, show (i + 1) * n + j - n = i * n + j by omega]
   exact flatMap_get f n ys i j x (fun z hz => hf z (List.mem_cons_of_mem _ hz)) (by simpa using h) hj
theorem ownsRow_slN {α : Type} {w : World} {base e size n : Nat} {v : Value} {xs : List α} {f : α → List Value} (h : w.ownsRow base e size v n (xs.flatMap f)) (hn : xs.length = n) (hf : ∀ x ∈ xs, (f x).length = size) : SlN w v size (xs.map f) := by
 obtain ⟨hl, h2⟩ := h
 rcases h2 with ⟨rfl, h0⟩ | ⟨g, cap, cur, rfl, hb, hg, h3, h4, h5, h6⟩
 · have : xs = [] := List.eq_nil_of_length_eq_zero (by omega)
   subst this
   subst h0
   exact ⟨none, 0, rfl, Nat.le_refl _, by omega, fun h => absurd rfl h⟩
 · unfold maxLen at h4
   refine ⟨_, cap, by simp [hn], by simpa [hn] using h3, h4, fun _ => ⟨g, 0, rfl, fun i u hu => ?_⟩⟩
   rw [List.getElem?_map] at hu
   obtain ⟨x, hx, rfl⟩ := Option.map_eq_some_iff.1 hu
   intro j v hv
   have hxl := hf x (List.mem_of_getElem? hx)
   have hj : j < size := by rw [← hxl]; exact (List.getElem?_eq_some_iff.1 hv).1
   have hi : i < n := by rw [← hn]; exact (List.getElem?_eq_some_iff.1 hx).1
   rw [cell_of_heap hg, Nat.zero_add]
   have hk := flatMap_get f size xs i j x hf hx hj
   rw [hv, ← h6, List.getElem?_take] at hk
   split at hk
   · simpa using hk
   · cases hk
theorem sides_slOf {W : World} {base : Nat} {vs : Value} {us : List Value} {sides : List (List Nat)} (h : W.ownsRow base 29 1 vs us.length us) (hs : SidesOwn W base us sides) : SlOf W vs (sides.map fun s => ints (nats s)) := by
 refine ⟨us, ownsRow_slAt h, by simpa using hs.1, fun i u r hu hr => ?_⟩
 rw [List.getElem?_map] at hr
 obtain ⟨s, hs', rfl⟩ := Option.map_eq_some_iff.1 hr
 exact ownsRow_slAt (hs.2 i u s hu hs')
theorem RegAt.val {W : World} {v : Value} {r : Reg} (h : RegAt W v r) : RegVal W (regCells v) r := by
 obtain ⟨vl, vs, us, rfl, h1, h2, h3⟩ := h
 exact ⟨vl, vs, rfl, ownsRow_slAt h1, sides_slOf h2 h3⟩
theorem regsIn_of {W : World} {base : Nat} {v : Value} {xs : List (Value × Reg)} (h : W.ownsRow base 45 3 v xs.length (xs.flatMap fun x => regCells x.1)) (hr : ∀ x ∈ xs, RegAt W x.1 x.2) : RegsIn W v (xs.map (·.2)) := by
 refine ⟨xs.map fun x => regCells x.1, ownsRow_slN h rfl (fun x hx => ?_), by simp, fun i c r hc hr' => ?_⟩
 · obtain ⟨vl, vs, hc, _⟩ := (hr x hx).val
   rw [hc]; rfl
 · rw [List.getElem?_map] at hc hr'
   obtain ⟨x, hx, rfl⟩ := Option.map_eq_some_iff.1 hc
   obtain ⟨y, hy, rfl⟩ := Option.map_eq_some_iff.1 hr'
   rw [hx] at hy
   obtain rfl := Option.some.inj hy
   exact (hr x (List.mem_of_getElem? hx)).val
theorem regions_any (vl ve vr vv : Value) (w : World) :
   Calls Tryz.prog 43 #[.agg #[vl, ve, vr, vv]] w fun e w' => e = .returned (.func (.func 82) #[] #[.pointer (some ⟨w.heap.size, 0, none⟩)]) ∧ w' = w.alloc (.cells #[vl, ve, vr, vv] 78) := by
 go_enter Tryz.func43, Tryz.ntmps43
 go_wp2
 go_ret
 exact ⟨rfl, rfl⟩
set_option maxHeartbeats 1000000 in
theorem CollectRegion_any (Bx n : Nat) (vl ve vr vv : Value) (rows : List (List Bool)) (living : List Nat) (w : World) (ho : OdAt w vl ve vr vv rows living)
   (hq : Sq n rows) (hn : n ≤ 1000000) (hl : ∀ i ∈ living, i < n) (hll : living.length ≤ 1000000) (ht : TransR n rows)
   (x0 : w.cell? ⟨Bx, 0, none⟩ = some vl) (x1 : w.cell? ⟨Bx, 1, none⟩ = some ve) (x2 : w.cell? ⟨Bx, 2, none⟩ = some vr) (x3 : w.cell? ⟨Bx, 3, none⟩ = some vv) :
   Calls Tryz.prog 42 #[.func (.func 82) #[] #[.pointer (some ⟨Bx, 0, none⟩)]] w fun e W' => ∃ v, e = .returned v ∧ RegsIn W' v (regionsL rows living) ∧ Below w.heap.size w W' := by
 have hb : Below w.heap.size w (w.alloc (.cells #[.slice none 0 0] 32)) := (Below.refl _ _).alloc (Nat.le_refl _) _
 have hseq := regions1_told 4 (by omega) Bx n w.heap.size w.heap.size 32 vl ve vr vv rows living (w.alloc (.cells #[.slice none 0 0] 32)) hb.size (cell_lt x0) (by simp) (by have := cell_lt x0; simp at this; omega) (heap_alloc_new w _) ho.l ho.e
   ((ho.r.slOfP.stays fun b hb' _ => hb.block b hb').mono fun b hb' => ⟨hb', by omega⟩) ((ho.v.slAtP.stays fun b hb' _ => hb.block b hb').mono fun b hb' => ⟨hb', by omega⟩) hq hn hl hll ht
   (below_cell hb x0) (below_cell hb x1) (below_cell hb x2) (below_cell hb x3)
 have HC := Lib.hid (callsIn_wide.1 (appendSeqRegion_in Fence.wide 5 82 #[.pointer (some ⟨Bx, 0, none⟩)] trivial trivial rfl (by omega) (regionsL rows living) (2 * living.length + 4) (by omega) w (enters_of Tryz.func82 (by kernel_rfl) rfl) hseq))
 clear hseq hb ho x0 x1 x2 x3
 go_enter Tryz.func42, Tryz.ntmps42
 go_wp2_with fail
 refine HC.out.mono ?_
 rintro e w1 ⟨v, rfl, xs, hxs, hown, hra, hB⟩
 have H := Lib.hid (And.intro hxs (And.intro hown (And.intro hra hB)))
 obtain ⟨a, c, hv⟩ := ownsRow_form hown
 subst hv
 clear hown hra hB hxs
 go_wp2
 go_ret
 refine ⟨_, rfl, ?_, H.out.2.2.2⟩
 rw [← H.out.1]
 exact regsIn_of H.out.2.1 H.out.2.2.1
set_option maxHeartbeats 1000000 in
theorem Regions_any (vl ve : Value) (g : Gr) (w : World) (hg : GrAt w vl ve g) :
   Calls Tryz.prog 13 #[.agg #[vl, ve]] w fun e w' => ∃ v, e = .returned v ∧ RegsIn w' v (regionsL g.reach g.living) ∧ Below w.heap.size w w' := by
 obtain ⟨al, cl, ml, rfl⟩ : ∃ a c m, vl = .slice a m c := by obtain ⟨a, c, h, _⟩ := hg.lines; exact ⟨a, c, _, h⟩
 obtain ⟨ae, ce, me, rfl⟩ : ∃ a c m, ve = .slice a m c := by obtain ⟨a, c, h, _⟩ := hg.edges; exact ⟨a, c, _, h⟩
 have hB0 : Hid (Below w.heap.size w (w.alloc (.cells #[.slice al ml cl, .slice ae me ce] 25))) := (Below.refl _ _).alloc (Nat.le_refl _) _
 have HB := Lib.hid (begin_any _ _ g _ (hg.below hB0.out))
 have hfew := hg.few
 clear hg
 go_enter Tryz.func13, Tryz.ntmps13
 go_wp2_with fail
 refine HB.out.mono ?_
 rintro e w1 ⟨vl', ve', vr, vv, rfl, ho, hb1⟩
 have HB1 : Hid (Below w.heap.size w w1) := hB0.out.trans (hb1.mono hB0.out.size)
 have HO := Lib.hid ho
 clear ho hb1 HB hB0
 go_wp2_with fail
 refine (regions_any vl' ve' vr vv w1).mono ?_
 rintro e w2 ⟨rfl, rfl⟩
 have hb2 : Below w1.heap.size w1 (w1.alloc (.cells #[vl', ve', vr, vv] 78)) := (Below.refl _ _).alloc (Nat.le_refl _) _
 have HC := Lib.hid (CollectRegion_any w1.heap.size g.dim vl' ve' vr vv g.reach g.living _ ⟨HO.out.l, HO.out.e, HO.out.r.below hb2, HO.out.v.below hb2⟩ g.sq (by have := g.dim_le; omega) g.living_lt (by have := g.living_len; omega) g.transR
   (by simp [go_sem]) (by simp [go_sem]) (by simp [go_sem]) (by simp [go_sem]))
 have HB2 : Hid (Below w.heap.size w (w1.alloc (.cells #[vl', ve', vr, vv] 78))) := HB1.out.trans (hb2.mono HB1.out.size)
 clear hb2 hfew
 go_wp2_with fail
 refine HC.out.mono ?_
 rintro e w3 ⟨v, rfl, hr, hb3⟩
 have H := Lib.hid (And.intro hr hb3)
 obtain ⟨a, m, c, hv⟩ := hr.form
 subst hv
 clear hb3 HC hr
 go_wp2
 go_ret
 exact ⟨_, rfl, H.out.1, HB2.out.trans (H.out.2.mono HB2.out.size)⟩
set_option maxHeartbeats 1000000 in
theorem Settled_any (vl ve : Value) (g : Gr) (w : World) (hg : GrAt w vl ve g) :
   Calls Tryz.prog 10 #[.agg #[vl, ve]] w fun e w' => ∃ v, e = .returned v ∧ SlAt w' v (ints (nats (sortB g.reach (inL g.reach g.living g.living)))) ∧ Below w.heap.size w w' := by
 obtain ⟨al, cl, ml, rfl⟩ : ∃ a c m, vl = .slice a m c := by obtain ⟨a, c, h, _⟩ := hg.lines; exact ⟨a, c, _, h⟩
 obtain ⟨ae, ce, me, rfl⟩ : ∃ a c m, ve = .slice a m c := by obtain ⟨a, c, h, _⟩ := hg.edges; exact ⟨a, c, _, h⟩
 have hB0 : Hid (Below w.heap.size w (w.alloc (.cells #[.slice al ml cl, .slice ae me ce] 25))) := (Below.refl _ _).alloc (Nat.le_refl _) _
 have HB := Lib.hid (begin_any _ _ g _ (hg.below hB0.out))
 have hfew := hg.few
 clear hg
 go_enter Tryz.func10, Tryz.ntmps10
 go_wp2_with fail
 refine HB.out.mono ?_
 rintro e w1 ⟨vl', ve', vr, vv, rfl, ho, hb1⟩
 have HB1 : Hid (Below w.heap.size w w1) := hB0.out.trans (hb1.mono hB0.out.size)
 have HS := Lib.hid (settled_any vl' ve' vr vv g.dim g.reach g.living w1 ho g.sq (by have := g.dim_le; omega) g.living_lt (by have := g.living_len; omega) g.transR)
 clear ho hb1 HB hB0 hfew
 go_wp2_with fail
 refine HS.out.mono ?_
 rintro e w2 ⟨v1, v2, rfl, h1, h2, hb2⟩
 have H := Lib.hid (And.intro h1 hb2)
 obtain ⟨a1, c1, hv1⟩ := ownsRow_form h1
 obtain ⟨a2, c2, hv2⟩ := ownsRow_form h2
 subst hv1 hv2
 clear h1 h2 hb2 HS
 go_wp2
 go_ret
 exact ⟨_, rfl, ownsRow_slAt H.out.1, HB1.out.trans (H.out.2.mono HB1.out.size)⟩
end Go.Proofs.Lg

namespace Go.Proofs.Lg
open Go Go.Ab Go.Bb Go.RowKit Go.Proofs.Lh
theorem flat_nrow : ∀ l : List Nat, (l.map nrow).flatten = (ints (nats l)).map D.sc
 | [] => rfl
 | x :: l => by rw [List.map_cons, List.flatten_cons, flat_nrow l]; rfl
theorem flat_srow : ∀ l : List (List Nat), (l.map srow).flatten = l.map dNats
 | [] => rfl
 | x :: l => by rw [List.map_cons, List.flatten_cons, flat_srow l]; rfl
theorem vcells_ok {x : Vtx} (h : x.ok) : x.cells.length = 35 ∧ ∀ u ∈ x.cells, u.oneCell' = true := by
 refine ⟨by simp [Vtx.cells, h.1], fun u hu => ?_⟩
 unfold Vtx.cells at hu
 rcases List.mem_append.1 hu with hu | hu
 · obtain ⟨n, _, rfl⟩ := List.mem_map.1 hu; rfl
 · simp at hu; rcases hu with rfl | rfl | rfl <;> rfl
theorem GrOk_of {w : World} {vl ve : Value} {g : Gr} (h : GrAt w vl ve g) : GrOk g := ⟨h.okl, h.oke, h.few, h.fewe⟩
end Go.Proofs.Lg

namespace Go.Proofs.Lh
open Go Go.Bb Go.RowKit Go.Proofs.Lg
theorem EqualStrings_fn (l : List ByteArray) (hll : l.length ≤ 1000000) : AFn Tryz.prog 33 [dStrs l, dStrs l] (dBool true) := by
 have h0 : ((l.length : Int) != (l.length : Int)) = false := by simp
 refine AFn_of (F := k_EqualStrings) (okb_EqualStrings.trans (by kernel_rfl)) (by simp [k_EqualStrings]) ?_
 simp only [k_EqualStrings, dStrs, dBool, h0, ↓Both_true, ↓Both_false, wx, reduceCtorEq, reduceIte, Nat.reduceAdd, Nat.reduceEqDiff, Nat.reduceLT, Nat.reduceLeDiff, wj, ← List.map_take, ← List.map_drop]
 refine LoopK.count (fun k => [(13, .d (.sc (.int .i64 k))), (12, .d (.sc (.int .i64 l.length))), (0, .d (.sl 1 (l.map strow))), (1, .d (.sl 1 (l.map strow)))]) (fun _ => []) (fun _ => True) l.length (by simp [SubB, Go.Bb.look, intD]) rfl trivial fun k hk _ => ?_
 by_cases hlt : k < l.length
 · have h1 : decide ((k : Int) < (l.length : Int)) = true := by simpa using hlt
   have h2 : l[k]? = some l[k] := List.getElem?_eq_getElem hlt
   have h3 : IntKind.i64.wrap ((k : Int) + 1) = ((k + 1 : Nat) : Int) := wrapN (by omega) (by omega)
   generalize l[k] = y at h2
   have h4 : (!(y.toList == y.toList)) = false := by simp
   simp only [h1, h2, h3, h4, hlt, strow, ↓Both_true, ↓Both_false, wx, reduceCtorEq, reduceIte, Nat.reduceAdd, Nat.reduceEqDiff, Nat.reduceLT, Nat.reduceLeDiff, wj, ← List.map_take, ← List.map_drop]
   rfl
 · have h1 : decide ((k : Int) < (l.length : Int)) = false := by simpa using hlt
   simp only [h1, deepD, AV.toL, ↓Both_true, ↓Both_false, wx, reduceCtorEq, reduceIte, Nat.reduceAdd, Nat.reduceEqDiff, Nat.reduceLT, Nat.reduceLeDiff, wj, ← List.map_take, ← List.map_drop]
theorem linClean1_fn (r : Reg) : AFn Tryz.prog 96 [.agg (dReg r)] (dBool r.conflict) := by
 obtain ⟨cf, ln, sd⟩ := r
 refine AFn_of (F := k_linClean1) (okb_linClean1.trans (by kernel_rfl)) (by simp [k_linClean1]) ?_
 simp only [k_linClean1, dReg, dBool, deepD, AV.toL, ↓Both_true, ↓Both_false, wx, reduceCtorEq, reduceIte, Nat.reduceAdd, Nat.reduceEqDiff, Nat.reduceLT, Nat.reduceLeDiff, wj, ← List.map_take, ← List.map_drop]
def idxI {α : Type} (p : α → Bool) (l : List α) : Int := match l.findIdx? p with
 | some k => k
 | none => -1
theorem idxI_hit {α : Type} {p : α → Bool} {l : List α} {k : Nat} (hk : k < l.length) (h : (l.take k).any p = false) (hp : p l[k] = true) : idxI p l = k := by
 have : l.findIdx? p = some k := by
   rw [List.findIdx?_eq_some_iff_getElem]
   refine ⟨hk, hp, fun j hj => ?_⟩
   rw [List.any_eq_false] at h
   have hm : l[j] ∈ l.take k := List.mem_take_iff_getElem.2 ⟨j, by omega, rfl⟩
   simpa using h _ hm
 unfold idxI; rw [this]
theorem idxI_none {α : Type} {p : α → Bool} {l : List α} (h : l.any p = false) : idxI p l = -1 := by
 have : l.findIdx? p = none := by
   rw [List.findIdx?_eq_none_iff]
   intro x hx
   simpa using List.any_eq_false.1 h x hx
 unfold idxI; rw [this]
theorem idxI_ge {α : Type} (p : α → Bool) (l : List α) : decide (idxI p l ≥ 0) = l.any p := by
 unfold idxI
 cases h : l.findIdx? p with
 | none =>
   have : l.any p = false := by
     rw [List.any_eq_false]; intro x hx; simpa using List.findIdx?_eq_none_iff.1 h x hx
   rw [this]; rfl
 | some k =>
   obtain ⟨hk, h3, _⟩ := List.findIdx?_eq_some_iff_getElem.1 h
   have : l.any p = true := List.any_eq_true.2 ⟨l[k], List.getElem_mem _, h3⟩
   rw [this]; simp
theorem IndexFuncRegion_fn (regs : List Reg) (hn : regs.length ≤ 1000000) (s : List AObj) : FnK Tryz.prog 122 [.d (dRegs regs), .clo 96 [] []] s fun d s' => d = .d (.sc (.int .i64 (idxI Reg.conflict regs))) ∧ s' = s := by
 refine FnK.of (F := k_IndexFuncRegion) (okb_IndexFuncRegion.trans (by kernel_rfl)) (by simp [k_IndexFuncRegion]) ?_
 simp only [k_IndexFuncRegion, dRegs, ↓Both_true, ↓Both_false, wx, reduceCtorEq, reduceIte, Nat.reduceAdd, Nat.reduceEqDiff, Nat.reduceLT, Nat.reduceLeDiff, wj, ← List.map_take, ← List.map_drop]
 refine LoopK.count (fun k => [(8, .d (.sc (.int .i64 k))), (7, .d (.sc (.int .i64 regs.length))), (0, .d (.sl 3 (regs.map dReg))), (1, .clo 96 [] [])]) (fun _ => s) (fun k => (regs.take k).any Reg.conflict = false) regs.length (by simp [SubB, Go.Bb.look, intD]) rfl rfl fun k hk hi => ?_
 by_cases hlt : k < regs.length
 · have h1 : decide ((k : Int) < (regs.length : Int)) = true := by simpa using hlt
   have h2 : regs[k]? = some regs[k] := List.getElem?_eq_getElem hlt
   have h3 : IntKind.i64.wrap ((k : Int) + 1) = ((k + 1 : Nat) : Int) := wrapN (by omega) (by omega)
   have h5 := linClean1_fn regs[k]
   have h8 : regs[k].conflict = false → (regs.take (k + 1)).any Reg.conflict = false := fun h => any_take_step' hi hlt h
   have h9 : regs[k].conflict = true → idxI Reg.conflict regs = k := fun h => idxI_hit hlt hi h
   generalize regs[k] = r at h2 h5 h8 h9
   have h6 : (dReg r).length = 3 := rfl
   have h7 : 3 ≤ 3 := Nat.le_refl _
   simp only [h1, h2, h3, h6, h7, hlt, ↓Both_true, ↓Both_false, wx, reduceCtorEq, reduceIte, Nat.reduceAdd, Nat.reduceEqDiff, Nat.reduceLT, Nat.reduceLeDiff, wj, ← List.map_take, ← List.map_drop]
   refine CallM.data h5 rfl ?_
   cases hc : r.conflict with
   | true => simp only [h1, h2, h3, h6, h7, hlt, h9 hc, dBool, ↓Both_true, ↓Both_false, wx, reduceCtorEq, reduceIte, Nat.reduceAdd, Nat.reduceEqDiff, Nat.reduceLT, Nat.reduceLeDiff, wj, ← List.map_take, ← List.map_drop]
   | false => simp only [h1, h2, h3, h6, h7, hlt, h8 hc, dBool, ↓Both_true, ↓Both_false, wx, reduceCtorEq, reduceIte, Nat.reduceAdd, Nat.reduceEqDiff, Nat.reduceLT, Nat.reduceLeDiff, wj, ← List.map_take, ← List.map_drop]
 · have h1 : decide ((k : Int) < (regs.length : Int)) = false := by simpa using hlt
   have h2 : regs.take k = regs := List.take_of_length_le (by omega)
   rw [h2] at hi
   simp only [h1, idxI_none hi, ↓Both_true, ↓Both_false, wx, reduceCtorEq, reduceIte, Nat.reduceAdd, Nat.reduceEqDiff, Nat.reduceLT, Nat.reduceLeDiff, wj, ← List.map_take, ← List.map_drop]
theorem ContainsFuncRegion_fn (regs : List Reg) (hn : regs.length ≤ 1000000) (s : List AObj) : FnK Tryz.prog 95 [.d (dRegs regs), .clo 96 [] []] s fun d s' => d = .d (dBool (regs.any Reg.conflict)) ∧ s' = s := by
 refine FnK.of (F := k_ContainsFuncRegion) (okb_ContainsFuncRegion.trans (by kernel_rfl)) (by simp [k_ContainsFuncRegion]) ?_
 have h1 := idxI_ge Reg.conflict regs
 simp only [k_ContainsFuncRegion, ↓Both_true, ↓Both_false, wx, reduceCtorEq, reduceIte, Nat.reduceAdd, Nat.reduceEqDiff, Nat.reduceLT, Nat.reduceLeDiff, wj, ← List.map_take, ← List.map_drop]
 refine CallM.fn ?_
 refine (IndexFuncRegion_fn regs hn s).mono ?_
 rintro d s' ⟨rfl, rfl⟩
 simp only [h1, dBool, ↓Both_true, ↓Both_false, wx, reduceCtorEq, reduceIte, Nat.reduceAdd, Nat.reduceEqDiff, Nat.reduceLT, Nat.reduceLeDiff, wj, ← List.map_take, ← List.map_drop]
end Go.Proofs.Lh

namespace Go.Proofs.Lg
open Go Go.RowKit
def noDefer (l : List Oper) : Bool := l.all fun o => match o.op with | .defer _ => false | _ => true
theorem opIn_of_wp {P : Program} {l n : Nat} {o : Oper} {a : Act} {w : World} {K : Act → World → Prop} {Q : Exit → Act → World → Prop} (hd : ∀ c, o.op ≠ .defer c) (h : o.wp P a w K Q) :
   o.wpIn (Fence.wide.inRound l) n P a w K Q := by
 refine ⟨fun _ _ => trivial, ?_⟩
 rw [Oper.semAt_eq _ _ _ hd]
 unfold Oper.wp at h
 generalize (execOp a.eval o).run P w = r at *
 cases r with
 | ok x w' =>
   cases x <;> simp only [Oper.upon] at h <;> simp only [Oper.uponIn]
   case value v => exact h
   case skip => exact h
   case defer d => exact h
   case enter f args => exact ⟨fun h0 => (by cases h0), (callsIn_wide (n := n - 1)).2 h⟩
   case row row args => exact ⟨fun h0 => (by cases h0), fun c cs _ => let ⟨v, w', r, s⟩ := h c cs; ⟨v, w', r, stepsIn_wide.2 s⟩⟩
 | halt x w' => cases x <;> simp only [Oper.upon] at h <;> simp only [Oper.uponIn] <;> exact h
theorem wpAnyIn_of_any {P : Program} {l n : Nat} {ops : Array Oper} {Q : Exit → Act → World → Prop} (hlo : ¬ LetsOut Q) (hd : ∀ (i : Nat) (o : Oper) c, ops[i]? = some o → o.op ≠ .defer c) :
   ∀ (f : Nat) (listed : Array Bool) (a : Act) (w : World), wpAny P .any ops Q f listed a w → wpAnyIn (Fence.wide.inRound l) n P .any ops Q f listed a w
 | 0, _, _, _, h => h
 | f + 1, listed, a, w, h => by
   refine ⟨h.1, fun i hi => ?_⟩
   have h2 := h.2 i hi
   unfold wpOp at h2
   unfold wpOpIn
   cases ho : ops[i]? with
   | none =>
     simp only [ho] at h2
     exact wpAnyIn_of_any hlo hd f _ _ _ h2
   | some o =>
     simp only [ho] at h2
     dsimp only
     split
     · rename_i hw
       rw [if_pos hw] at h2
       rcases h2 with h2 | h2
       · exact Oper.wpIn_mono (fun a w h => wpAnyIn_of_any hlo hd f _ a w h) (opIn_of_wp (fun c => hd i o c ho) h2)
       · exact absurd h2.2 hlo
     · rename_i hw
       rw [if_neg hw] at h2
       exact ⟨fun _ _ => trivial, wpAnyIn_of_any hlo hd f _ _ _ h2⟩
theorem wpIn_region_ord {P : Program} {lp n : Nat} {Q : Exit → Act → World → Prop} {id : Nat} {a : Act} {w : World} {l : List Oper} (C : World → Prop) (ex : Nat) (ord : List (Nat × Bool)) (hm : P.follows .mixedOrders = true)
   (hlo : ¬ LetsOut Q) (hnd : noDefer l = true)
   (hB : (Region.noSelect l.toArray && decide (ord.length = l.length) && ordB l.toArray ex ord (Array.replicate l.length false)) = true) (hC : C w.drew)
   (h : wpOrd P l.toArray Q C ex ord a w.drew) : (Code.region id l.toArray true).wpIn (Fence.wide.inRound lp) n P Q a w := by
 simp only [Bool.and_eq_true, decide_eq_true_eq] at hB
 obtain ⟨⟨hs, hn⟩, hB⟩ := hB
 refine wpIn_region_any hm (wpAnyIn_of_any hlo (fun i o c ho hc => ?_) _ _ _ _ (wpAny_of_E (C := C) (ex := ex) _ _ _ _ ?_))
 · have := List.all_eq_true.1 hnd o (by rw [List.getElem?_toArray] at ho; exact List.mem_of_getElem? ho)
   rw [hc] at this
   cases this
 · have := wpE_ord hs ord _ a w.drew hB (.inr hC) h
   rw [hn] at this
   simpa using this
end Go.Proofs.Lg

namespace Go.Proofs.Lg
open Go Go.RowKit
theorem zeroCells_one (z : Value) (n : Nat) : (Builtin.zeroCells #[z] n).size = n := by
 simp [Builtin.zeroCells]
set_option maxRecDepth 100000 in
set_option maxHeartbeats 1000000 in
theorem GrowInts_nil (n : Nat) (w : World) (hn : n ≤ 10000000) :
   Calls Tryz.prog 89 #[.slice none 0 0, .int .i64 n] w fun e w' => ∃ v, e = .returned v ∧ w'.ownsRow w.heap.size 3 1 v 0 [] ∧ Below w.heap.size w w' := by
 by_cases h0 : n = 0
 · subst h0
   go_enter Tryz.func89, Tryz.ntmps89
   go_wp2
   go_ret
   exact ⟨_, rfl, World.ownsRow_nil _ _ _ _, Below.refl _ _⟩
 · have h1 : 0 < n := by omega
   obtain ⟨i0, hi, hz0, hz1, hz2⟩ := info_parts info_int
   have hr := Lib.run_append_nil_zeros (P := Tryz.prog) w 29 3 29 3 i0 (.int .i64 0) .i64 .i64 Tryz.underlying29 Tryz.underlying3 hi hz0 n h1 (by omega) (by omega) (by rw [hz2]; omega)
   have HR := Lib.hid hr
   clear hr
   go_enter Tryz.func89, Tryz.ntmps89
   go_wp2_with (at_builtin; refine Lib.wpList_append_run _ rfl _ _ _ _ rfl _ _ rfl rfl _ _ HR.out ?_)
   go_ret
   refine ⟨_, rfl, ⟨rfl, .inr ⟨w.heap.size, grownCap w n 0 3, _, rfl, Nat.le_refl _, heap_alloc_new w _, Nat.zero_le _, grownCap_le_maxLen w n 0 _ (by unfold maxLen; omega), ?_, rfl⟩⟩, ((Below.refl _ _).alloc (Nat.le_refl _) _).drew⟩
   have := grownCap_ge w n 0 3
   rw [Array.size_append, zeroCells_one, zeroCells_one]
   omega
def tot (rows : List (List Int)) (k : Nat) : Nat := (rows.take k).flatten.length
theorem tot_succ {rows : List (List Int)} {k : Nat} (h : k < rows.length) : tot rows (k + 1) = tot rows k + rows[k].length := by
 unfold tot; rw [List.take_succ_eq_append_getElem h, List.flatten_append, List.length_append, List.flatten_singleton]
theorem tot_le (rows : List (List Int)) (k : Nat) : tot rows k ≤ rows.flatten.length := by
 unfold tot
 rw [show rows.flatten.length = ((rows.take k) ++ rows.drop k).flatten.length by rw [List.take_append_drop], List.flatten_append, List.length_append]; omega
set_option maxRecDepth 100000 in
set_option maxHeartbeats 4000000 in
theorem ConcatInts_any (rows : List (List Int)) (v : Value) (w : World) (h : SlOf w v (rows.map ints)) (hn : rows.length ≤ 10000000) (ht : rows.flatten.length ≤ 10000000) :
   Calls Tryz.prog 46 #[v] w fun e w' => ∃ u, e = .returned u ∧ w'.ownsRow w.heap.size 3 1 u rows.flatten.length (ints rows.flatten) ∧ Below w.heap.size w w' := by
 obtain ⟨vs, hv, hl, hrow⟩ := h
 obtain ⟨a, c, rfl, hc1, hc2, hcs⟩ := hv
 have hvl : vs.length = rows.length := by simpa using hl
 rw [hvl] at hc1 ⊢
 have hcell : ∀ k (h : k < rows.length), ∃ (b off : Nat) (u : Value) (cu : Option Addr × Nat), a = some ⟨b, off, none⟩ ∧ u = .slice cu.1 rows[k].length cu.2 ∧ w.cell? ⟨b, off + k, none⟩ = some u ∧ SlAt w u (ints rows[k]) := by
   intro k hk
   obtain ⟨b, off, ha, hcc⟩ := hcs (by intro e; subst e; simp at hvl; omega)
   have hk2 : k < vs.length := by omega
   have e1 : vs[k]? = some vs[k] := List.getElem?_eq_getElem hk2
   have hs := hrow k vs[k] (ints rows[k]) e1 (by rw [List.getElem?_map, List.getElem?_eq_getElem hk]; rfl)
   obtain ⟨au, cu, hu, _⟩ := id hs
   rw [ints_length] at hu
   exact ⟨b, off, vs[k], (au, cu), ha, hu, hcc k _ e1, hs⟩
 have HC := Lib.hid hcell
 have htle : ∀ k, tot rows k ≤ 10000000 := fun k => Nat.le_trans (tot_le rows k) ht
 have HT := Lib.hid htle
 clear hcell hcs hrow hl hvl htle ht
 go_enter Tryz.func46, Tryz.ntmps46
 go_wp2
 go_loop [3, 11] (fun t i => ∃ k : Nat, k ≤ rows.length ∧ i = .int .i64 k ∧ t = .int .i64 (tot rows k)) (fun _ i => rows.length - (intOf i).toNat)
 case atStart => exact ⟨0, Nat.zero_le _, rfl, rfl⟩
 case round =>
   obtain ⟨k, hk, rfl, rfl⟩ := hrel
   have ht1 := HT.out k
   by_cases hlt : k < rows.length
   · obtain ⟨b, off, u, ⟨au, cu⟩, rfl, hu, hc, hs⟩ := HC.out k hlt
     have HTS : Hid (tot rows (k + 1) = tot rows k + rows[k].length) := tot_succ hlt
     have ht2 := HT.out (k + 1)
     have hle : rows[k].length ≤ 10000000 := by have := HTS.out; omega
     dsimp only at hu
     subst hu
     generalize rows[k].length = m at *
     have hcl := cell_lt hc
     clear hs
     have hsm : (tot rows k : Int) + (m : Int) ≤ 10000000 := by have := HTS.out; omega
     go_wp2
     go_round
     case rel => exact ⟨k + 1, by omega, by go_num, by rw [HTS.out]; go_num⟩
     case measure => simp [intOf]; omega
   · have hkl : k = rows.length := by omega
     have htn : tot rows rows.length = rows.flatten.length := by unfold tot; rw [List.take_length]
     rw [hkl]
     have HTN := Lib.hid htn
     clear htn
     have ht0 := HT.out rows.length
     clear hkl hlt ht1
     have HG := Lib.hid (GrowInts_nil (tot rows rows.length) w ht0)
     go_wp2_with fail
     refine HG.out.mono ?_
     rintro e w1 ⟨u1, rfl, hown1, hb1⟩
     have HOW := Lib.hid hown1
     have HB1 := Lib.hid hb1
     obtain ⟨a1, c1, hu1⟩ := ownsRow_form hown1
     subst hu1
     clear hown1 hb1 HG
     have hs1 := HB1.out.size
     go_wp2
     go_loopg [6, 27] (rows.length + 1) (fun gk out i wr => ∃ k : Nat, i = .int .i64 k ∧ k ≤ rows.length ∧ gk + k = rows.length + 1 ∧ wr.ownsRow w.heap.size 3 1 out (tot rows k) (ints (rows.take k).flatten) ∧ Below w.heap.size w wr)
     case atStart => exact ⟨0, rfl, Nat.zero_le _, rfl, by simpa [tot, ints] using HOW.out, HB1.out⟩
     case round =>
       obtain ⟨k, rfl, hk, hgk, hown, hB⟩ := hrel
       have HO := Lib.hid hown
       have HB := Lib.hid hB
       obtain ⟨ao, co, hvo⟩ := ownsRow_form hown
       subst hvo
       have hsz := hB.size
       clear hown hB
       by_cases hlt : k < rows.length
       · obtain ⟨b, off, u, ⟨au, cu⟩, rfl, hu, hc, hs⟩ := HC.out k hlt
         have HTS : Hid (tot rows (k + 1) = tot rows k + rows[k].length) := tot_succ hlt
         have HTK : Hid (rows.take (k + 1) = rows.take k ++ [rows[k]]) := List.take_succ_eq_append_getElem hlt
         have ht1 := HT.out k
         have ht2 := HT.out (k + 1)
         have hle : rows[k].length ≤ 10000000 := by have := HTS.out; omega
         dsimp only at hu
         subst hu
         have hcr := below_cell HB.out hc
         have hcl := cell_lt hcr
         have hsrc := (hs.below HB.out).src
         rw [ints_length] at hsrc
         have HSRC := Lib.hid hsrc
         have HONE : Hid (∀ u ∈ ints rows[k], u.oneCell' = true) := oneCell_ints _
         clear hs hc hsrc
         generalize rows[k] = r at *
         have hsum : tot rows k + r.length ≤ 10000000 := by have := HTS.out; omega
         go_wp2_with (at_builtin; refine wpList_app rfl _ _ _ rfl w.heap.size 3 (.int .i64 0) 1 8 Tryz.underlying29 info_int rfl (by decide) _ (tot rows k) (ints (rows.take k).flatten) rfl HO.out _ r.length (ints r) rfl HSRC.out HONE.out (by omega) (by omega) (by omega) ?_; intro a' c' w2 hown2 hgrow2 hat2)
         go_roundg (gk - 1)
         case measure => omega
         case rel =>
           refine ⟨k + 1, by go_num, by omega, by omega, ?_, HB.out.grown hgrow2 hsz (fun j hj => (HO.out.lt j hj).1)⟩
           rw [HTK.out, HTS.out]
           simpa [ints] using hown2
       · have hkl : k = rows.length := by omega
         clear hlt hgk hk
         subst hkl
         have HOW2 : Hid (wr.ownsRow w.heap.size 3 1 (.slice ao (tot rows rows.length) co) rows.flatten.length (ints rows.flatten)) := by
           have := HO.out
           rw [List.take_length] at this
           rw [← HTN.out]
           exact Lib.hid this
         go_wp2
         go_ret
         exact ⟨_, rfl, HOW2.out, HB.out⟩
end Go.Proofs.Lg
