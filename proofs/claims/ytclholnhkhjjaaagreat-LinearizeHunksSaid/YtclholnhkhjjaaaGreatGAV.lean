/-
  Part GAV of this claim's proof. Joined by merge.py from the texts of wip/tpl.
-/
import Derived.Test.YtclholnhkhjjaaaGreatI1
import Derived.Test.YtclholnhkhjjaaaGreatGAQ
import Derived.Test.YtclholnhkhjjaaaGreatGAR
import Derived.Test.YtclholnhkhjjaaaGreatGAS
import Derived.Test.YtclholnhkhjjaaaGreatGAL
import Derived.Test.YtclholnhkhjjaaaGreatGAK
import Derived.Test.YtclholnhkhjjaaaGreatGAT
set_option linter.unusedVariables false
set_option linter.unusedSimpArgs false
set_option linter.unnecessarySimpa false
namespace Go.Proofs.Lg
open Go Go.RowKit Go.Shelf
def RegVal (W : World) (c : List Value) (r : Reg) : Prop := ∃ vl vs, c = [.bool r.conflict, vl, vs] ∧ SlAt W vl (ints (nats r.lines)) ∧ SlOf W vs (r.sides.map fun s => ints (nats s))
def RegsIn (W : World) (v : Value) (regs : List Reg) : Prop := ∃ cs : List (List Value), SlN W v 3 cs ∧ cs.length = regs.length ∧ ∀ (i : Nat) (c : List Value) (r : Reg), cs[i]? = some c → regs[i]? = some r → RegVal W c r
theorem RegVal.below {W W' : World} {c : List Value} {r : Reg} (h : RegVal W c r) (hb : Below W.heap.size W W') : RegVal W' c r := by
 obtain ⟨vl, vs, hc, h1, h2⟩ := h
 exact ⟨vl, vs, hc, h1.below hb, h2.below hb⟩
theorem RegsIn.below {W W' : World} {v : Value} {regs : List Reg} (h : RegsIn W v regs) (hb : Below W.heap.size W W') : RegsIn W' v regs := by
 obtain ⟨cs, h1, h2, h3⟩ := h
 exact ⟨cs, h1.below hb, h2, fun i c r hc hr => (h3 i c r hc hr).below hb⟩
theorem RegsIn.form {W : World} {v : Value} {regs : List Reg} (h : RegsIn W v regs) : ∃ a m c, v = .slice a m c := by
 obtain ⟨cs, ⟨a, c, hv, _⟩, _⟩ := h
 exact ⟨a, _, c, hv⟩
theorem flatMap_get {α β : Type} (f : α → List β) (n : Nat) : ∀ (xs : List α) (i j : Nat) (x : α), (∀ y ∈ xs, (f y).length = n) → xs[i]? = some x → j < n → (xs.flatMap f)[i * n + j]? = (f x)[j]?
 | [], _, _, _, _, h, _ => by simp at h
 | y :: ys, 0, j, x, hf, h, hj => by
   simp at h; subst h
   rw [List.flatMap_cons, Nat.zero_mul, Nat.zero_add, List.getElem?_append_left (by rw [hf _ List.mem_cons_self]; exact hj)]
 | y :: ys, i + 1, j, x, hf, h, hj => by
   have hl := hf y List.mem_cons_self
   have e : (i + 1) * n = i * n + n := Nat.succ_mul i n
   rw [List.flatMap_cons, List.getElem?_append_right (by omega), hl, show (i + 1) * n + j - n = i * n + j by omega]
   exact flatMap_get f n ys i j x (fun z hz => hf z (List.mem_cons_of_mem _ hz)) (by simpa using h) hj
theorem ownsRow_slN {α : Type} {w : World} {base e size n : Nat} {v : Value} {xs : List α} {f : α → List Value} (h : w.ownsRow base e size v n (xs.flatMap f)) (hn : xs.length = n) (hf : ∀ x ∈ xs, (f x).length = size) : SlN w v size (xs.map f) := by
 obtain ⟨hl, h2⟩ := h
 rcases h2 with ⟨rfl, h0⟩ | ⟨g, cap, cur, rfl, hb, hg, h3, h4, h5, h6⟩
 · have : xs = [] := List.eq_nil_of_length_eq_zero (by omega)
   subst this
   subst h0
   exact ⟨none, 0, rfl, Nat.le_refl _, by omega, fun h => absurd rfl h⟩
 · unfold maxLen at h4
   refine ⟨_, cap, by simp [hn], by simpa [hn] using h3, h4, fun _ => ⟨g, 0, rfl, fun i u hu => ?_⟩⟩
   rw [List.getElem?_map] at hu
   obtain ⟨x, hx, rfl⟩ := Option.map_eq_some_iff.1 hu
   intro j v hv
   have hxl := hf x (List.mem_of_getElem? hx)
   have hj : j < size := by rw [← hxl]; exact (List.getElem?_eq_some_iff.1 hv).1
   have hi : i < n := by rw [← hn]; exact (List.getElem?_eq_some_iff.1 hx).1
   rw [cell_of_heap hg, Nat.zero_add]
   have hk := flatMap_get f size xs i j x hf hx hj
   rw [hv, ← h6, List.getElem?_take] at hk
   split at hk
   · simpa using hk
   · cases hk
theorem sides_slOf {W : World} {base : Nat} {vs : Value} {us : List Value} {sides : List (List Nat)} (h : W.ownsRow base 29 1 vs us.length us) (hs : SidesOwn W base us sides) : SlOf W vs (sides.map fun s => ints (nats s)) := by
 refine ⟨us, ownsRow_slAt h, by simpa using hs.1, fun i u r hu hr => ?_⟩
 rw [List.getElem?_map] at hr
 obtain ⟨s, hs', rfl⟩ := Option.map_eq_some_iff.1 hr
 exact ownsRow_slAt (hs.2 i u s hu hs')
theorem RegAt.val {W : World} {v : Value} {r : Reg} (h : RegAt W v r) : RegVal W (regCells v) r := by
 obtain ⟨vl, vs, us, rfl, h1, h2, h3⟩ := h
 exact ⟨vl, vs, rfl, ownsRow_slAt h1, sides_slOf h2 h3⟩
theorem regsIn_of {W : World} {base : Nat} {v : Value} {xs : List (Value × Reg)} (h : W.ownsRow base 45 3 v xs.length (xs.flatMap fun x => regCells x.1)) (hr : ∀ x ∈ xs, RegAt W x.1 x.2) : RegsIn W v (xs.map (·.2)) := by
 refine ⟨xs.map fun x => regCells x.1, ownsRow_slN h rfl (fun x hx => ?_), by simp, fun i c r hc hr' => ?_⟩
 · obtain ⟨vl, vs, hc, _⟩ := (hr x hx).val
   rw [hc]; rfl
 · rw [List.getElem?_map] at hc hr'
   obtain ⟨x, hx, rfl⟩ := Option.map_eq_some_iff.1 hc
   obtain ⟨y, hy, rfl⟩ := Option.map_eq_some_iff.1 hr'
   rw [hx] at hy
   obtain rfl := Option.some.inj hy
   exact (hr x (List.mem_of_getElem? hx)).val
theorem regions_any (vl ve vr vv : Value) (w : World) :
   Calls Tryz.prog 43 #[.agg #[vl, ve, vr, vv]] w fun e w' => e = .returned (.func (.func 82) #[] #[.pointer (some ⟨w.heap.size, 0, none⟩)]) ∧ w' = w.alloc (.cells #[vl, ve, vr, vv] 78) := by
 go_enter Tryz.func43, Tryz.ntmps43
 go_wp2
 go_ret
 exact ⟨rfl, rfl⟩
set_option maxHeartbeats 1000000 in
theorem CollectRegion_any (Bx n : Nat) (vl ve vr vv : Value) (rows : List (List Bool)) (living : List Nat) (w : World) (ho : OdAt w vl ve vr vv rows living)
   (hq : Sq n rows) (hn : n ≤ 1000000) (hl : ∀ i ∈ living, i < n) (hll : living.length ≤ 1000000) (ht : TransR n rows)
   (x0 : w.cell? ⟨Bx, 0, none⟩ = some vl) (x1 : w.cell? ⟨Bx, 1, none⟩ = some ve) (x2 : w.cell? ⟨Bx, 2, none⟩ = some vr) (x3 : w.cell? ⟨Bx, 3, none⟩ = some vv) :
   Calls Tryz.prog 42 #[.func (.func 82) #[] #[.pointer (some ⟨Bx, 0, none⟩)]] w fun e W' => ∃ v, e = .returned v ∧ RegsIn W' v (regionsL rows living) ∧ Below w.heap.size w W' := by
 have hb : Below w.heap.size w (w.alloc (.cells #[.slice none 0 0] 32)) := (Below.refl _ _).alloc (Nat.le_refl _) _
 have hseq := regions1_told 4 (by omega) Bx n w.heap.size w.heap.size 32 vl ve vr vv rows living (w.alloc (.cells #[.slice none 0 0] 32)) hb.size (cell_lt x0) (by simp) (by have := cell_lt x0; simp at this; omega) (heap_alloc_new w _) ho.l ho.e
   ((ho.r.slOfP.stays fun b hb' _ => hb.block b hb').mono fun b hb' => ⟨hb', by omega⟩) ((ho.v.slAtP.stays fun b hb' _ => hb.block b hb').mono fun b hb' => ⟨hb', by omega⟩) hq hn hl hll ht
   (below_cell hb x0) (below_cell hb x1) (below_cell hb x2) (below_cell hb x3)
 have HC := Lib.hid (callsIn_wide.1 (appendSeqRegion_in Fence.wide 5 82 #[.pointer (some ⟨Bx, 0, none⟩)] trivial trivial rfl (by omega) (regionsL rows living) (2 * living.length + 4) (by omega) w (enters_of Tryz.func82 (by kernel_rfl) rfl) hseq))
 clear hseq hb ho x0 x1 x2 x3
 go_enter Tryz.func42, Tryz.ntmps42
 go_wp2_with fail
 refine HC.out.mono ?_
 rintro e w1 ⟨v, rfl, xs, hxs, hown, hra, hB⟩
 have H := Lib.hid (And.intro hxs (And.intro hown (And.intro hra hB)))
 obtain ⟨a, c, hv⟩ := ownsRow_form hown
 subst hv
 clear hown hra hB hxs
 go_wp2
 go_ret
 refine ⟨_, rfl, ?_, H.out.2.2.2⟩
 rw [← H.out.1]
 exact regsIn_of H.out.2.1 H.out.2.2.1
set_option maxHeartbeats 1000000 in
theorem Regions_any (vl ve : Value) (g : Gr) (w : World) (hg : GrAt w vl ve g) :
   Calls Tryz.prog 13 #[.agg #[vl, ve]] w fun e w' => ∃ v, e = .returned v ∧ RegsIn w' v (regionsL g.reach g.living) ∧ Below w.heap.size w w' := by
 obtain ⟨al, cl, ml, rfl⟩ : ∃ a c m, vl = .slice a m c := by obtain ⟨a, c, h, _⟩ := hg.lines; exact ⟨a, c, _, h⟩
 obtain ⟨ae, ce, me, rfl⟩ : ∃ a c m, ve = .slice a m c := by obtain ⟨a, c, h, _⟩ := hg.edges; exact ⟨a, c, _, h⟩
 have hB0 : Hid (Below w.heap.size w (w.alloc (.cells #[.slice al ml cl, .slice ae me ce] 25))) := (Below.refl _ _).alloc (Nat.le_refl _) _
 have HB := Lib.hid (begin_any _ _ g _ (hg.below hB0.out))
 have hfew := hg.few
 clear hg
 go_enter Tryz.func13, Tryz.ntmps13
 go_wp2_with fail
 refine HB.out.mono ?_
 rintro e w1 ⟨vl', ve', vr, vv, rfl, ho, hb1⟩
 have HB1 : Hid (Below w.heap.size w w1) := hB0.out.trans (hb1.mono hB0.out.size)
 have HO := Lib.hid ho
 clear ho hb1 HB hB0
 go_wp2_with fail
 refine (regions_any vl' ve' vr vv w1).mono ?_
 rintro e w2 ⟨rfl, rfl⟩
 have hb2 : Below w1.heap.size w1 (w1.alloc (.cells #[vl', ve', vr, vv] 78)) := (Below.refl _ _).alloc (Nat.le_refl _) _
 have HC := Lib.hid (CollectRegion_any w1.heap.size g.dim vl' ve' vr vv g.reach g.living _ ⟨HO.out.l, HO.out.e, HO.out.r.below hb2, HO.out.v.below hb2⟩ g.sq (by have := g.dim_le; omega) g.living_lt (by have := g.living_len; omega) g.transR
   (by simp [go_sem]) (by simp [go_sem]) (by simp [go_sem]) (by simp [go_sem]))
 have HB2 : Hid (Below w.heap.size w (w1.alloc (.cells #[vl', ve', vr, vv] 78))) := HB1.out.trans (hb2.mono HB1.out.size)
 clear hb2 hfew
 go_wp2_with fail
 refine HC.out.mono ?_
 rintro e w3 ⟨v, rfl, hr, hb3⟩
 have H := Lib.hid (And.intro hr hb3)
 obtain ⟨a, m, c, hv⟩ := hr.form
 subst hv
 clear hb3 HC hr
 go_wp2
 go_ret
 exact ⟨_, rfl, H.out.1, HB2.out.trans (H.out.2.mono HB2.out.size)⟩
set_option maxHeartbeats 1000000 in
theorem Settled_any (vl ve : Value) (g : Gr) (w : World) (hg : GrAt w vl ve g) :
   Calls Tryz.prog 10 #[.agg #[vl, ve]] w fun e w' => ∃ v, e = .returned v ∧ SlAt w' v (ints (nats (sortB g.reach (inL g.reach g.living g.living)))) ∧ Below w.heap.size w w' := by
 obtain ⟨al, cl, ml, rfl⟩ : ∃ a c m, vl = .slice a m c := by obtain ⟨a, c, h, _⟩ := hg.lines; exact ⟨a, c, _, h⟩
 obtain ⟨ae, ce, me, rfl⟩ : ∃ a c m, ve = .slice a m c := by obtain ⟨a, c, h, _⟩ := hg.edges; exact ⟨a, c, _, h⟩
 have hB0 : Hid (Below w.heap.size w (w.alloc (.cells #[.slice al ml cl, .slice ae me ce] 25))) := (Below.refl _ _).alloc (Nat.le_refl _) _
 have HB := Lib.hid (begin_any _ _ g _ (hg.below hB0.out))
 have hfew := hg.few
 clear hg
 go_enter Tryz.func10, Tryz.ntmps10
 go_wp2_with fail
 refine HB.out.mono ?_
 rintro e w1 ⟨vl', ve', vr, vv, rfl, ho, hb1⟩
 have HB1 : Hid (Below w.heap.size w w1) := hB0.out.trans (hb1.mono hB0.out.size)
 have HS := Lib.hid (settled_any vl' ve' vr vv g.dim g.reach g.living w1 ho g.sq (by have := g.dim_le; omega) g.living_lt (by have := g.living_len; omega) g.transR)
 clear ho hb1 HB hB0 hfew
 go_wp2_with fail
 refine HS.out.mono ?_
 rintro e w2 ⟨v1, v2, rfl, h1, h2, hb2⟩
 have H := Lib.hid (And.intro h1 hb2)
 obtain ⟨a1, c1, hv1⟩ := ownsRow_form h1
 obtain ⟨a2, c2, hv2⟩ := ownsRow_form h2
 subst hv1 hv2
 clear h1 h2 hb2 HS
 go_wp2
 go_ret
 exact ⟨_, rfl, ownsRow_slAt H.out.1, HB1.out.trans (H.out.2.mono HB1.out.size)⟩
end Go.Proofs.Lg

namespace Go.Proofs.Lg
open Go Go.Ab Go.Bb Go.RowKit Go.Proofs.Lh
theorem flat_nrow : ∀ l : List Nat, (l.map nrow).flatten = (ints (nats l)).map D.sc
 | [] => rfl
 | x :: l => by rw [List.map_cons, List.flatten_cons, flat_nrow l]; rfl
theorem flat_srow : ∀ l : List (List Nat), (l.map srow).flatten = l.map dNats
 | [] => rfl
 | x :: l => by rw [List.map_cons, List.flatten_cons, flat_srow l]; rfl
theorem vcells_ok {x : Vtx} (h : x.ok) : x.cells.length = 35 ∧ ∀ u ∈ x.cells, u.oneCell' = true := by
 refine ⟨by simp [Vtx.cells, h.1], fun u hu => ?_⟩
 unfold Vtx.cells at hu
 rcases List.mem_append.1 hu with hu | hu
 · obtain ⟨n, _, rfl⟩ := List.mem_map.1 hu; rfl
 · simp at hu; rcases hu with rfl | rfl | rfl <;> rfl
end Go.Proofs.Lg

namespace Go.Proofs.Lh
open Go Go.Bb Go.RowKit Go.Proofs.Lg
theorem EqualStrings_fn (l : List ByteArray) (hll : l.length ≤ 1000000) : AFn Tryz.prog 33 [dStrs l, dStrs l] (dBool true) := by
 have h0 : ((l.length : Int) != (l.length : Int)) = false := by simp
 refine AFn_of (F := k_EqualStrings) (okb_EqualStrings.trans (by kernel_rfl)) (by simp [k_EqualStrings]) ?_
 simp only [k_EqualStrings, dStrs, dBool, h0, ↓Both_true, ↓Both_false, wx, reduceCtorEq, reduceIte, Nat.reduceAdd, Nat.reduceEqDiff, Nat.reduceLT, Nat.reduceLeDiff, wj, ← List.map_take, ← List.map_drop]
 refine LoopK.count (fun k => [(13, .d (.sc (.int .i64 k))), (12, .d (.sc (.int .i64 l.length))), (0, .d (.sl 1 (l.map strow))), (1, .d (.sl 1 (l.map strow)))]) (fun _ => []) (fun _ => True) l.length (by simp [SubB, Go.Bb.look, intD]) rfl trivial fun k hk _ => ?_
 by_cases hlt : k < l.length
 · have h1 : decide ((k : Int) < (l.length : Int)) = true := by simpa using hlt
   have h2 : l[k]? = some l[k] := List.getElem?_eq_getElem hlt
   have h3 : IntKind.i64.wrap ((k : Int) + 1) = ((k + 1 : Nat) : Int) := wrapN (by omega) (by omega)
   generalize l[k] = y at h2
   have h4 : (!(y.toList == y.toList)) = false := by simp
   simp only [h1, h2, h3, h4, hlt, strow, ↓Both_true, ↓Both_false, wx, reduceCtorEq, reduceIte, Nat.reduceAdd, Nat.reduceEqDiff, Nat.reduceLT, Nat.reduceLeDiff, wj, ← List.map_take, ← List.map_drop]
   rfl
 · have h1 : decide ((k : Int) < (l.length : Int)) = false := by simpa using hlt
   simp only [h1, deepD, AV.toL, ↓Both_true, ↓Both_false, wx, reduceCtorEq, reduceIte, Nat.reduceAdd, Nat.reduceEqDiff, Nat.reduceLT, Nat.reduceLeDiff, wj, ← List.map_take, ← List.map_drop]
theorem linClean1_fn (r : Reg) : AFn Tryz.prog 96 [.agg (dReg r)] (dBool r.conflict) := by
 obtain ⟨cf, ln, sd⟩ := r
 refine AFn_of (F := k_linClean1) (okb_linClean1.trans (by kernel_rfl)) (by simp [k_linClean1]) ?_
 simp only [k_linClean1, dReg, dBool, deepD, AV.toL, ↓Both_true, ↓Both_false, wx, reduceCtorEq, reduceIte, Nat.reduceAdd, Nat.reduceEqDiff, Nat.reduceLT, Nat.reduceLeDiff, wj, ← List.map_take, ← List.map_drop]
def idxI {α : Type} (p : α → Bool) (l : List α) : Int := match l.findIdx? p with
 | some k => k
 | none => -1
theorem idxI_hit {α : Type} {p : α → Bool} {l : List α} {k : Nat} (hk : k < l.length) (h : (l.take k).any p = false) (hp : p l[k] = true) : idxI p l = k := by
 have : l.findIdx? p = some k := by
   rw [List.findIdx?_eq_some_iff_getElem]
   refine ⟨hk, hp, fun j hj => ?_⟩
   rw [List.any_eq_false] at h
   have hm : l[j] ∈ l.take k := List.mem_take_iff_getElem.2 ⟨j, by omega, rfl⟩
   simpa using h _ hm
 unfold idxI; rw [this]
theorem idxI_none {α : Type} {p : α → Bool} {l : List α} (h : l.any p = false) : idxI p l = -1 := by
 have : l.findIdx? p = none := by
   rw [List.findIdx?_eq_none_iff]
   intro x hx
   simpa using List.any_eq_false.1 h x hx
 unfold idxI; rw [this]
theorem idxI_ge {α : Type} (p : α → Bool) (l : List α) : decide (idxI p l ≥ 0) = l.any p := by
 unfold idxI
 cases h : l.findIdx? p with
 | none =>
   have : l.any p = false := by
     rw [List.any_eq_false]; intro x hx; simpa using List.findIdx?_eq_none_iff.1 h x hx
   rw [this]; rfl
 | some k =>
   obtain ⟨hk, h3, _⟩ := List.findIdx?_eq_some_iff_getElem.1 h
   have : l.any p = true := List.any_eq_true.2 ⟨l[k], List.getElem_mem _, h3⟩
   rw [this]; simp
theorem IndexFuncRegion_fn (regs : List Reg) (hn : regs.length ≤ 1000000) (s : List AObj) : FnK Tryz.prog 122 [.d (dRegs regs), .clo 96 [] []] s fun d s' => d = .d (.sc (.int .i64 (idxI Reg.conflict regs))) ∧ s' = s := by
 refine FnK.of (F := k_IndexFuncRegion) (okb_IndexFuncRegion.trans (by kernel_rfl)) (by simp [k_IndexFuncRegion]) ?_
 simp only [k_IndexFuncRegion, dRegs, ↓Both_true, ↓Both_false, wx, reduceCtorEq, reduceIte, Nat.reduceAdd, Nat.reduceEqDiff, Nat.reduceLT, Nat.reduceLeDiff, wj, ← List.map_take, ← List.map_drop]
 refine LoopK.count (fun k => [(8, .d (.sc (.int .i64 k))), (7, .d (.sc (.int .i64 regs.length))), (0, .d (.sl 3 (regs.map dReg))), (1, .clo 96 [] [])]) (fun _ => s) (fun k => (regs.take k).any Reg.conflict = false) regs.length (by simp [SubB, Go.Bb.look, intD]) rfl rfl fun k hk hi => ?_
 by_cases hlt : k < regs.length
 · have h1 : decide ((k : Int) < (regs.length : Int)) = true := by simpa using hlt
   have h2 : regs[k]? = some regs[k] := List.getElem?_eq_getElem hlt
   have h3 : IntKind.i64.wrap ((k : Int) + 1) = ((k + 1 : Nat) : Int) := wrapN (by omega) (by omega)
   have h5 := linClean1_fn regs[k]
   have h8 : regs[k].conflict = false → (regs.take (k + 1)).any Reg.conflict = false := fun h => any_take_step' hi hlt h
   have h9 : regs[k].conflict = true → idxI Reg.conflict regs = k := fun h => idxI_hit hlt hi h
   generalize regs[k] = r at h2 h5 h8 h9
   have h6 : (dReg r).length = 3 := rfl
   have h7 : 3 ≤ 3 := Nat.le_refl _
   simp only [h1, h2, h3, h6, h7, hlt, ↓Both_true, ↓Both_false, wx, reduceCtorEq, reduceIte, Nat.reduceAdd, Nat.reduceEqDiff, Nat.reduceLT, Nat.reduceLeDiff, wj, ← List.map_take, ← List.map_drop]
   refine CallM.data h5 rfl ?_
   cases hc : r.conflict with
   | true => simp only [h1, h2, h3, h6, h7, hlt, h9 hc, dBool, ↓Both_true, ↓Both_false, wx, reduceCtorEq, reduceIte, Nat.reduceAdd, Nat.reduceEqDiff, Nat.reduceLT, Nat.reduceLeDiff, wj, ← List.map_take, ← List.map_drop]
   | false => simp only [h1, h2, h3, h6, h7, hlt, h8 hc, dBool, ↓Both_true, ↓Both_false, wx, reduceCtorEq, reduceIte, Nat.reduceAdd, Nat.reduceEqDiff, Nat.reduceLT, Nat.reduceLeDiff, wj, ← List.map_take, ← List.map_drop]
 · have h1 : decide ((k : Int) < (regs.length : Int)) = false := by simpa using hlt
   have h2 : regs.take k = regs := List.take_of_length_le (by omega)
   rw [h2] at hi
   simp only [h1, idxI_none hi, ↓Both_true, ↓Both_false, wx, reduceCtorEq, reduceIte, Nat.reduceAdd, Nat.reduceEqDiff, Nat.reduceLT, Nat.reduceLeDiff, wj, ← List.map_take, ← List.map_drop]
theorem ContainsFuncRegion_fn (regs : List Reg) (hn : regs.length ≤ 1000000) (s : List AObj) : FnK Tryz.prog 95 [.d (dRegs regs), .clo 96 [] []] s fun d s' => d = .d (dBool (regs.any Reg.conflict)) ∧ s' = s := by
 refine FnK.of (F := k_ContainsFuncRegion) (okb_ContainsFuncRegion.trans (by kernel_rfl)) (by simp [k_ContainsFuncRegion]) ?_
 have h1 := idxI_ge Reg.conflict regs
 simp only [k_ContainsFuncRegion, ↓Both_true, ↓Both_false, wx, reduceCtorEq, reduceIte, Nat.reduceAdd, Nat.reduceEqDiff, Nat.reduceLT, Nat.reduceLeDiff, wj, ← List.map_take, ← List.map_drop]
 refine CallM.fn ?_
 refine (IndexFuncRegion_fn regs hn s).mono ?_
 rintro d s' ⟨rfl, rfl⟩
 simp only [h1, dBool, ↓Both_true, ↓Both_false, wx, reduceCtorEq, reduceIte, Nat.reduceAdd, Nat.reduceEqDiff, Nat.reduceLT, Nat.reduceLeDiff, wj, ← List.map_take, ← List.map_drop]
end Go.Proofs.Lh

namespace Go.Proofs.Lg
def HIn (A : List ByteArray) : Nat → Bool → List Hk → Prop
 | _, _, [] => True
 | e, g, h :: l => e ≤ h.pos ∧ (g = true ∨ e < h.pos) ∧ h.pos + h.old.length ≤ A.length ∧ (A.take (h.pos + h.old.length)).drop h.pos = h.old ∧ 0 < h.old.length + h.new.length ∧ HIn A (h.pos + h.old.length) false l
def hApp (A : List ByteArray) : Nat → List ByteArray → List Hk → List ByteArray
 | e, out, [] => out ++ A.drop e
 | e, out, h :: l => hApp A (h.pos + h.old.length) (out ++ (A.take h.pos).drop e ++ h.new) l
def kSeg (a b t : Nat) : List Mt := if t > a then [⟨a, b, t - a⟩] else []
def kGo (n : Nat) : Nat → Nat → List Hk → List Mt
 | a, b, [] => kSeg a b n
 | a, b, h :: l => kSeg a b h.pos ++ kGo n (h.pos + h.old.length) (b + (h.pos - a) + h.new.length) l
def lsum (l : List Mt) : Nat := (l.map Mt.len).sum
def osum (l : List Hk) : Nat := (l.map fun h => h.old.length).sum
theorem lsum_app (l k : List Mt) : lsum (l ++ k) = lsum l + lsum k := by simp [lsum]
theorem osum_app (l k : List Hk) : osum (l ++ k) = osum l + osum k := by simp [osum]
theorem kSeg_sum (a b t : Nat) : lsum (kSeg a b t) = t - a := by
 unfold kSeg
 split
 · simp [lsum]
 · simp [lsum]; omega
theorem cut_len {α : Type} (A : List α) (i t : Nat) (h : t ≤ A.length) : ((A.take t).drop i).length = t - i := by simp; omega
theorem hGo_in {A B : List ByteArray} : ∀ (m : List Mt) (i k : Nat) (f : Bool) (e : Nat) (g : Bool), MFrom A B i k f m → i ≤ A.length → e ≤ i → (g = true ∨ e < i) → HIn A e g (hGo A B i k m)
 | [], i, k, f, e, g, _, hi, he, hg => by
   rw [hGo]
   split
   · rename_i hc
     refine ⟨he, hg, by simp; omega, ?_, by simp; omega, trivial⟩
     dsimp only
     rw [List.take_of_length_le (by simp; omega)]
   · trivial
 | m :: l, i, k, f, e, g, hm, hi, he, hg => by
   obtain ⟨⟨o1, o2, o3, o4⟩, m1, m2, m3, m4⟩ := hm
   rw [hGo]
   split
   · rename_i hc
     have hl := cut_len A i m.a (by omega)
     have hl2 := cut_len B k m.b (by omega)
     have hp : i + ((A.take m.a).drop i).length = m.a := by rw [hl]; omega
     refine ⟨he, hg, by dsimp only; omega, by dsimp only; rw [hp], by dsimp only; rw [hl, hl2]; omega, ?_⟩
     dsimp only
     rw [hp]
     exact hGo_in l _ _ false _ _ m4 o2 (by omega) (.inr (by omega))
   · rw [List.nil_append]
     exact hGo_in l _ _ false _ _ m4 o2 (by omega) (hg.imp id fun h => by omega)
theorem take_cut {α : Type} (B : List α) {k t : Nat} (h : k ≤ t) : B.take k ++ (B.take t).drop k = B.take t := by
 have : B.take k = (B.take t).take k := by rw [List.take_take, Nat.min_eq_left h]
 rw [this, List.take_append_drop]
theorem cut_cut {α : Type} (A : List α) {e i t : Nat} (h1 : e ≤ i) (h2 : i ≤ t) : (A.take i).drop e ++ (A.take t).drop i = (A.take t).drop e := by
 have h3 : (A.take i).drop e = ((A.take t).drop e).take (i - e) := by
   rw [List.take_drop, List.take_take, Nat.add_sub_cancel' h1, Nat.min_eq_left h2]
 have h4 : (A.take t).drop i = ((A.take t).drop e).drop (i - e) := by
   rw [List.drop_drop, Nat.add_sub_cancel' h1]
 rw [h3, h4, List.take_append_drop]
theorem same_cut {A B : List ByteArray} {m : Mt} (h : MOk A B m) : (A.take (m.a + m.len)).drop m.a = (B.take (m.b + m.len)).drop m.b := by
 obtain ⟨_, h2, h3, h4⟩ := h
 refine List.ext_getElem? fun q => ?_
 rw [List.getElem?_drop, List.getElem?_drop, List.getElem?_take, List.getElem?_take]
 by_cases hq : q < m.len
 · rw [if_pos (by omega), if_pos (by omega), h4 q hq]
 · rw [if_neg (by omega), if_neg (by omega)]
theorem hApp_hGo {A B : List ByteArray} : ∀ (m : List Mt) (i k : Nat) (f : Bool) (e : Nat) (out : List ByteArray), MFrom A B i k f m → i ≤ A.length → k ≤ B.length → e ≤ i → out ++ (A.take i).drop e = B.take k → hApp A e out (hGo A B i k m) = B
 | [], i, k, f, e, out, _, hi, hk, he, ho => by
   rw [hGo]
   split
   · rw [hApp, hApp]
     dsimp only
     rw [ho, List.take_append_drop, List.drop_eq_nil_of_le (by simp; omega), List.append_nil]
   · rename_i hc
     rw [hApp]
     rw [List.take_of_length_le (by omega), List.take_of_length_le (by omega)] at ho
     exact ho
 | m :: l, i, k, f, e, out, hm, hi, hk, he, ho => by
   obtain ⟨hmo, m1, m2, m3, m4⟩ := hm
   have hs := same_cut hmo
   obtain ⟨o1, o2, o3, o4⟩ := hmo
   rw [hGo]
   split
   · rename_i hc
     have hl := cut_len A i m.a (by omega)
     have hp : i + ((A.take m.a).drop i).length = m.a := by rw [hl]; omega
     rw [List.cons_append, List.nil_append, hApp]
     dsimp only
     rw [hp, ho, take_cut B m2]
     refine hApp_hGo l _ _ false _ _ m4 o2 o3 (by omega) ?_
     rw [hs, take_cut B (by omega)]
   · rename_i hc
     have e1 : m.a = i := by omega
     have e2 : m.b = k := by omega
     rw [List.nil_append]
     refine hApp_hGo l _ _ false _ _ m4 o2 o3 (by omega) ?_
     rw [e1, e2] at hs
     rw [← cut_cut A (i := i) he (by omega), ← List.append_assoc, ho, e1, e2, hs, take_cut B (by omega)]
theorem osum_hGo {A B : List ByteArray} : ∀ (m : List Mt) (i k : Nat) (f : Bool), MFrom A B i k f m → i ≤ A.length → osum (hGo A B i k m) + lsum m + i = A.length
 | [], i, k, f, _, hi => by
   rw [hGo]
   split
   · simp [osum, lsum]; omega
   · simp [osum, lsum]; omega
 | m :: l, i, k, f, hm, hi => by
   obtain ⟨⟨o1, o2, o3, o4⟩, m1, m2, m3, m4⟩ := hm
   have ih := osum_hGo l _ _ false m4 o2
   have hs : lsum (m :: l) = m.len + lsum l := by simp [lsum]
   rw [hGo, osum_app, hs]
   split
   · have hl := cut_len A i m.a (by omega)
     have : osum [(⟨i, (A.take m.a).drop i, (B.take m.b).drop k⟩ : Hk)] = m.a - i := by simp only [osum, List.map_cons, List.map_nil, List.sum_cons, List.sum_nil, hl]; omega
     omega
   · have : osum [] = 0 := rfl
     omega
theorem lsum_kGo {A : List ByteArray} : ∀ (l : List Hk) (e b : Nat) (g : Bool), HIn A e g l → e ≤ A.length → lsum (kGo A.length e b l) + osum l + e = A.length
 | [], e, b, g, _, he => by
   rw [kGo, kSeg_sum]
   have : osum [] = 0 := rfl
   omega
 | h :: l, e, b, g, hh, he => by
   obtain ⟨h1, h2, h3, h4, h5, h6⟩ := hh
   have ih := lsum_kGo l _ (b + (h.pos - e) + h.new.length) false h6 h3
   have hs : osum (h :: l) = h.old.length + osum l := by simp [osum]
   rw [kGo, lsum_app, kSeg_sum, hs]
   omega
theorem mPut_sum (out : List Mt) (i k : Nat) : lsum (mPut out i k) = lsum out + 1 := by
 unfold mPut
 rcases List.eq_nil_or_concat out with rfl | ⟨l, m, rfl⟩
 · simp [lsum]
 · rw [List.concat_eq_append, List.getLast?_append]
   simp only [List.getLast?_singleton, Option.some_or, List.dropLast_concat]
   split
   · simp [lsum]; omega
   · simp [lsum]; omega
def hits (f : Nat → Option Nat) (is : List Nat) : Nat := is.countP fun i => (f i).isSome
theorem mGo_sum {f : Nat → Option Nat} : ∀ (is : List Nat) (last : Int) (out l : List Mt), mGo f is last out = some l → lsum l = lsum out + hits f is
 | [], last, out, l, h => by simp [mGo] at h; subst h; simp [hits]
 | i :: is, last, out, l, h => by
   rw [mGo] at h
   unfold hits
   rw [List.countP_cons]
   cases hfi : f i with
   | none =>
     rw [hfi] at h
     have := mGo_sum is last out l h
     unfold hits at this
     simp [this]
   | some k =>
     rw [hfi] at h
     dsimp only at h
     split at h
     · cases h
     · have := mGo_sum is k _ l h
       rw [mPut_sum] at this
       unfold hits at this
       simp [this]; omega
end Go.Proofs.Lg

namespace Go.Proofs.Lh
open Go Go.Bb Go.RowKit Go.Proofs.Lg
open Go.Ab (RD RDs)
theorem RD_agg_sc {I : Nat → Nat} {w : World} {v : Value} {cs : List Value} (h : RD I w v (.agg (cs.map .sc))) : v = .agg cs.toArray := by
 cases h with
 | agg us ds h1 h2 h3 => rw [RDs_sc ⟨h1, h2, h3⟩]
theorem toLs_d : ∀ l : List Go.Ab.D, toLs (l.map AV.d) = some l
 | [] => rfl
 | x :: l => by rw [List.map_cons, toLs, toLs_d l]; rfl
def idR (v : Vtx) : List Go.Ab.D := (vrow v).take 33
theorem idR_len {v : Vtx} (h : v.ok) : (idR v).length = 33 := by unfold idR; rw [List.length_take, vrow_35 h]; rfl
theorem Compare_fn {x y : Vtx} (hx : x.ok) (hy : y.ok) : AFn Tryz.prog 32 [.agg (idR x), .agg (idR y)] (.sc (.int .i64 (x.cmp y))) := by
 refine ⟨enters_fn Tryz.func32 rfl (by rfl), fun I w vs hl hv => ?_⟩
 match vs, hl with
 | [u, v], _ =>
   have e1 := hv 0 u _ rfl rfl
   have e2 := hv 1 v _ rfl rfl
   unfold idR at e1 e2
   rw [vrow_id hx] at e1
   rw [vrow_id hy] at e2
   obtain rfl := RD_agg_sc e1
   obtain rfl := RD_agg_sc e2
   refine (refCompare_any x.id y.id x.n y.n hx.2.1 hy.2.1 hx.1 hy.1 w).mono fun e w' h => ?_
   obtain ⟨rfl, hb⟩ := h
   exact ⟨_, rfl, .sc _, hb⟩
theorem LH1_fn {x y : Vtx} (hx : x.ok) (hy : y.ok) : AFn Tryz.prog 31 [.agg (vrow x), .agg (vrow y)] (.sc (.int .i64 (x.cmp y))) := by
 have h1 := vrow_35 hx
 have h2 := vrow_35 hy
 have h33 : 33 ≤ 35 := by decide
 refine AFn_of (F := k_LH1) (okb_LH1.trans (by kernel_rfl)) (by simp [k_LH1]) ?_
 simp only [k_LH1, h1, h2, h33, ↓Both_true, ↓Both_false, wx, reduceCtorEq, reduceIte, Nat.reduceAdd, Nat.reduceEqDiff, Nat.reduceLT, Nat.reduceLeDiff, wj, ← List.map_take, ← List.map_drop]
 refine CallM.data (Compare_fn hx hy) (by simp only [List.nil_append, List.append_nil, toDs, AV.toD, toLs_d, idR, Option.map_some, Option.bind_some]) ?_
 simp only [deepD, AV.toL, ↓Both_true, ↓Both_false, wx, reduceCtorEq, reduceIte, Nat.reduceAdd, Nat.reduceEqDiff, Nat.reduceLT, Nat.reduceLeDiff, wj, ← List.map_take, ← List.map_drop]
theorem wrap_pred (n : Nat) (h : n ≤ 1000000) : IntKind.i64.wrap ((n : Int) - 1) = (n : Int) - 1 := by
 cases n with
 | zero => decide
 | succ n => rw [wrap64_id (by omega) (by omega)]
theorem cmp_back {x y : Vtx} (h : x.cmp y < 0) : decide (y.cmp x < 0) = false := by
 rw [decide_eq_false_iff_not]
 intro h2
 have := cmpId_trans (a := x.id) (n := x.n) (b := y.id) (m := y.n) (c := x.id) (k := x.n) h h2
 have h0 : cmpId x.id x.n x.id x.n = 0 := Vtx.cmp_same (x := x) (y := x) rfl rfl
 omega
set_option maxHeartbeats 1000000 in
theorem SortedVtx_fn (ls : List Vtx) (hok : ∀ x ∈ ls, x.ok) (hp : ls.Pairwise fun a b => a.cmp b < 0) (hn : ls.length ≤ 1000000) (s : List AObj) : FnK Tryz.prog 30 [.d (dLines ls), .clo 31 [] []] s fun d s' => d = .d (dBool true) ∧ s' = s := by
 have hw := wrap_pred ls.length hn
 refine FnK.of (F := k_SortedVtx) (okb_SortedVtx.trans (by kernel_rfl)) (by simp [k_SortedVtx]) ?_
 simp only [k_SortedVtx, dLines, hw, ↓Both_true, ↓Both_false, wx, reduceCtorEq, reduceIte, Nat.reduceAdd, Nat.reduceEqDiff, Nat.reduceLT, Nat.reduceLeDiff, wj, ← List.map_take, ← List.map_drop]
 refine LoopK.at (fun i : Int => [(5, .d (.sc (.int .i64 i))), (0, .d (.sl 35 (ls.map vrow))), (1, .clo 31 [] [])]) (fun _ => s) (fun m i => i = (m : Int) - 1 ∧ m ≤ ls.length) ls.length ((ls.length : Int) - 1) (by simp [SubB, Go.Bb.look, dLines]) rfl ⟨rfl, Nat.le_refl _⟩ ?_
 rintro m i ⟨rfl, hm⟩
 by_cases hlt : 1 < m
 · have h1 : decide ((m : Int) - 1 > 0) = true := by simp; omega
   obtain ⟨k, rfl⟩ : ∃ k, m = k + 2 := ⟨m - 2, by omega⟩
   have e0 : ((k + 2 : Nat) : Int) - 1 = ((k + 1 : Nat) : Int) := by omega
   have e1 : ((k + 1 : Nat) : Int) - 1 = (k : Int) := by omega
   have e2 : IntKind.i64.wrap (k : Int) = (k : Int) := wrapN (m := k) rfl (by omega)
   rw [e0] at h1 ⊢
   have g1 : ls[k + 1]? = some ls[k + 1] := List.getElem?_eq_getElem (by omega)
   have g2 : ls[k]? = some ls[k] := List.getElem?_eq_getElem (by omega)
   have hc := cmp_back (List.pairwise_iff_getElem.1 hp k (k + 1) (by omega) (by omega) (by omega))
   have hx := hok ls[k + 1] (List.getElem_mem _)
   have hy := hok ls[k] (List.getElem_mem _)
   generalize ls[k + 1] = x at *
   generalize ls[k] = y at *
   have d1 := vrow_35 hx
   have d2 := vrow_35 hy
   have d3 := vrow_t35 hx
   have d4 := vrow_t35 hy
   have d5 : 35 ≤ 35 := Nat.le_refl _
   have z1 : (0 : Int) ≤ ((k + 1 : Nat) : Int) := by omega
   have z2 : (((k + 1 : Nat) : Int)).toNat = k + 1 := by omega
   have n1 : k + 1 < ls.length := by omega
   have n2 : k < ls.length := by omega
   simp only [h1, g1, g2, e1, e2, d1, d2, d3, d4, d5, z1, z2, ↓Both_true, ↓Both_false, wx, reduceCtorEq, reduceIte, Nat.reduceAdd, Nat.reduceEqDiff, Nat.reduceLT, Nat.reduceLeDiff, wj, ← List.map_take, ← List.map_drop]
   refine CallM.data (LH1_fn hx hy) rfl ?_
   simp only [hc, h1, g1, g2, e1, e2, d1, d2, d3, d4, d5, z1, z2, ↓Both_true, ↓Both_false, wx, reduceCtorEq, reduceIte, Nat.reduceAdd, Nat.reduceEqDiff, Nat.reduceLT, Nat.reduceLeDiff, wj, ← List.map_take, ← List.map_drop]
   refine ⟨rfl, k + 1, (k : Int), by omega, ?_⟩
   exact ⟨rfl, by omega, by omega⟩
 · have h1 : decide ((m : Int) - 1 > 0) = false := by simp; omega
   simp only [h1, dBool, ↓Both_true, ↓Both_false, wx, reduceCtorEq, reduceIte, Nat.reduceAdd, Nat.reduceEqDiff, Nat.reduceLT, Nat.reduceLeDiff, wj, ← List.map_take, ← List.map_drop]
end Go.Proofs.Lh
