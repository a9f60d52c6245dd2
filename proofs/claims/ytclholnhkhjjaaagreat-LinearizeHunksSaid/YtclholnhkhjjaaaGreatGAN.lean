/-
  Part GAN of this claim's proof. Joined by merge.py from the texts of wip/tpl.
-/
import Derived.Test.YtclholnhkhjjaaaGreatC8
import Derived.Test.YtclholnhkhjjaaaGreatShelf
import Derived.Sort.OwnSortedInts
import Derived.Test.YtclholnhkhjjaaaGreatGAM
set_option linter.unusedVariables false
set_option linter.unusedSimpArgs false
set_option linter.unnecessarySimpa false
namespace Go.Proofs.Lg
open Go Go.RowKit Go.Shelf Go.Sort
set_option maxHeartbeats 400000 in
theorem before_x (vl ve vr vv : Value) (n i j : Nat) (rows : List (List Bool)) (w : World) (h : SlOf w vr (rows.map bools)) (hq : Sq n rows) (hi : i < n) (hj : j < n) (hn : n ≤ 1000000) :
   Calls Tryz.prog 75 #[.agg #[vl, ve, vr, vv], .int .i64 i, .int .i64 j] w fun e w' => e = .returned (.bool (bef rows i j)) ∧ ∃ os, w' = grow w os := by
 obtain ⟨b, off, c, rfl, hc⟩ := h.form hq (by omega)
 obtain ⟨bi, oi, ci, c1, c2⟩ := hc i j hi hj
 obtain ⟨bj, oj, cj, c3, c4⟩ := hc j i hj hi
 have hb := cell_lt c1
 have hbi := cell_lt c2
 have hbj := cell_lt c4
 unfold bef
 generalize rel rows i j = x at c2 ⊢
 generalize rel rows j i = y at c4 ⊢
 clear hc hq h
 cases x <;>
 · go_enter Tryz.func75, Tryz.ntmps75
   go_wp2
   go_ret
   exact ⟨rfl, _, alloc_eq_grow _ _⟩
set_option maxHeartbeats 1000000 in
theorem settled2_x (vl ve vr vv : Value) (n i j Bx : Nat) (rows : List (List Bool)) (w : World) (h : SlOf w vr (rows.map bools)) (hq : Sq n rows) (hi : i < n) (hj : j < n) (hn : n ≤ 1000000)
   (x0 : w.cell? ⟨Bx, 0, none⟩ = some vl) (x1 : w.cell? ⟨Bx, 1, none⟩ = some ve) (x2 : w.cell? ⟨Bx, 2, none⟩ = some vr) (x3 : w.cell? ⟨Bx, 3, none⟩ = some vv) :
   Calls Tryz.prog 74 #[.int .i64 i, .int .i64 j, .pointer (some ⟨Bx, 0, none⟩)] w fun e w' => e = .returned (.int .i64 (cmpBef rows i j)) ∧ ∃ os, w' = grow w os := by
 unfold cmpBef
 by_cases hij : i = j
 · have h1 : ((i : Int) == (j : Int)) = true := by simp [hij]
   rw [if_pos hij]
   clear hij
   go_enter Tryz.func74, Tryz.ntmps74
   go_wp2
   go_ret
   exact ⟨rfl, #[], (grow_empty _).symm⟩
 · have h1 : ((i : Int) == (j : Int)) = false := by simp; omega
   rw [if_neg hij]
   have HS := Lib.hid h
   clear hij h
   have hbf := before_x vl ve vr vv n i j rows w HS.out hq hi hj hn
   generalize bef rows i j = x at hbf ⊢
   have HBF := Lib.hid hbf
   clear hbf
   cases x <;>
   · go_enter Tryz.func74, Tryz.ntmps74
     go_wp2_with (go_at_call 75; refine HBF.out.mono ?_; rintro e w1 ⟨rfl, os, rfl⟩)
     go_ret
     exact ⟨rfl, os, rfl⟩
def TransR (n : Nat) (rows : List (List Bool)) : Prop := ∀ i j k, i < n → j < n → k < n → rel rows i j = true → rel rows j k = true → rel rows i k = true
theorem bef_irrefl (rows : List (List Bool)) (i : Nat) : bef rows i i = false := by unfold bef; cases rel rows i i <;> rfl
theorem bef_trans {n : Nat} {rows : List (List Bool)} (ht : TransR n rows) {i j k : Nat} (hi : i < n) (hj : j < n) (hk : k < n) (h1 : bef rows i j = true) (h2 : bef rows j k = true) : bef rows i k = true := by
 unfold bef at *
 simp only [Bool.and_eq_true, Bool.not_eq_true'] at *
 refine ⟨ht i j k hi hj hk h1.1 h2.1, ?_⟩
 cases h : rel rows k i with
 | false => rfl
 | true =>
   have := ht k i j hk hi hj h h1.1
   rw [h2.2] at this; cases this
theorem bef_asymm {rows : List (List Bool)} {i j : Nat} (h1 : bef rows i j = true) : bef rows j i = false := by
 unfold bef at *
 simp only [Bool.and_eq_true, Bool.not_eq_true'] at h1
 simp [h1.1, h1.2]
def sortB (rows : List (List Bool)) (S : List Nat) : List Nat := S.mergeSort fun i j => !bef rows j i
theorem putCells_map {α : Type} [Inhabited α] (f : α → Int) (off : Nat) (d : Array α) (c : Array Value) : putCells (fun x => Value.int .i64 (f x)) off d c = putCells (Value.int .i64) off (d.map f) c := by
 unfold putCells
 congr 1
 funext k x
 by_cases h : off ≤ k ∧ k < off + d.size
 · have hk : k - off < d.size := by omega
   simp [h, hk]
 · simp [h]
theorem putRow_map {α : Type} [Inhabited α] (f : α → Int) (w : World) (blk off : Nat) (d : Array α) : putRow (fun x => Value.int .i64 (f x)) w blk off d = putRow (Value.int .i64) w blk off (d.map f) := by
 unfold putRow
 congr 1
 funext c
 exact putCells_map f off d c
theorem ltOf_cmpBef (rows : List (List Bool)) (i j : Nat) : decide (cmpBef rows i j < 0) = bef rows i j := by
 unfold cmpBef
 by_cases h : i = j
 · subst h; simp [bef_irrefl]
 · cases hb : bef rows i j <;> simp [h]
theorem sort_any (vl ve vr vv : Value) (n g c base Bx : Nat) (S : List Nat) (rows : List (List Bool)) (w : World) (hr : SlOfP (fun b => b ≠ g) w vr (rows.map bools)) (hq : Sq n rows) (hn : n ≤ 1000000) (hS : ∀ i ∈ S, i < n) (hne : S ≠ [])
   (ht : TransR n rows) (htot : ∀ i ∈ S, ∀ j ∈ S, i ≠ j → relat rows i j = true) (hown : w.ownsRow base 3 1 (.slice (some ⟨g, 0, none⟩) S.length c) S.length (ints (nats S))) (hll : S.length ≤ 1000000) (hBx : Bx ≠ g)
   (x0 : w.cell? ⟨Bx, 0, none⟩ = some vl) (x1 : w.cell? ⟨Bx, 1, none⟩ = some ve) (x2 : w.cell? ⟨Bx, 2, none⟩ = some vr) (x3 : w.cell? ⟨Bx, 3, none⟩ = some vv) :
   Calls Tryz.prog 73 #[.slice (some ⟨g, 0, none⟩) S.length c, .func (.func 74) #[] #[.pointer (some ⟨Bx, 0, none⟩)]] w fun e w' =>
     e = .returned (.tuple #[]) ∧ w'.ownsRow base 3 1 (.slice (some ⟨g, 0, none⟩) S.length c) S.length (ints (nats (sortB rows S))) ∧ w.grownBy w' (some g) := by
 obtain ⟨s0, S', rfl⟩ : ∃ s S', S = s :: S' := by cases S with | nil => exact absurd rfl hne | cons s S' => exact ⟨s, S', rfl⟩
 generalize hSS : s0 :: S' = S at *
 have hs0 : s0 ∈ S := by rw [← hSS]; simp
 haveI : Inhabited { i : Nat // i ∈ S } := ⟨⟨s0, hs0⟩⟩
 rcases hown.2 with ⟨h, _⟩ | ⟨g', cap, cur, hv, hbg, hg, hncap, hcm, hcs, htake⟩
 · simp at h
 obtain ⟨rfl, rfl⟩ : g = g' ∧ c = cap := by simpa using hv
 have hlen : S.attach.length = S.length := by simp
 have hmap : (S.attach.toArray.map fun x => ((x.1 : Nat) : Int)) = (nats S).toArray := by
   apply Array.ext'
   simp only [List.map_toArray, nats]
   have : S.attach.map (fun x => ((x.1 : Nat) : Int)) = (S.attach.map Subtype.val).map Int.ofNat := by simp
   rw [this, List.attach_map_subtype_val]
 have hH : Holds (Value.int .i64) w g 0 (nats S).toArray := holds_of_blockI hg (by rw [nats_length]; simpa [ints] using htake)
 have hH' : Holds (fun x : { i : Nat // i ∈ S } => Value.int .i64 (x.1 : Nat)) w g 0 S.attach.toArray := by
   intro j hj
   have hj' : j < S.length := by simpa using hj
   have := hH j (by simpa [nats] using hj')
   refine ⟨?_, this.2⟩
   rw [this.1]
   simp [nats, hj']
 have hgl : g < w.heap.size := (Array.getElem?_eq_some_iff.1 hg).1
 have hsw : ∀ (m : Nat) (os : Array Obj) (dk : Array { i : Nat // i ∈ S }), w.grownBy (sortWorld (fun x : { i : Nat // i ∈ S } => Value.int .i64 (x.1 : Nat)) w g 0 m dk os) (some g) := by
   intro m os dk
   unfold sortWorld
   rw [putRow_map (fun x : { i : Nat // i ∈ S } => ((x.1 : Nat) : Int))]
   exact grownBy_sortedI _
 have hcmp : CmpLays1 Tryz.prog 74 #[.pointer (some ⟨Bx, 0, none⟩)] (fun x : { i : Nat // i ∈ S } => Value.int .i64 (x.1 : Nat)) (fun x y => cmpBef rows x.1 y.1) g 0 S.attach.toArray.size w := by
   intro m os dk _ x y
   have hg2 := hsw m os dk
   have hk : ∀ j u, w.cell? ⟨Bx, j, none⟩ = some u → (sortWorld (fun x : { i : Nat // i ∈ S } => Value.int .i64 (x.1 : Nat)) w g 0 m dk os).cell? ⟨Bx, j, none⟩ = some u := fun j u h => hg2.cell h (by simpa using hBx)
   have := settled2_x vl ve vr vv n x.1 y.1 Bx rows _ ((hr.stays (fun b hb hb' => hg2.block b hb' (fun e => hb (Option.some.inj e)))).slOf) hq (hS _ x.2) (hS _ y.2) hn (hk _ _ x0) (hk _ _ x1) (hk _ _ x2) (hk _ _ x3)
   exact this.mono fun e w' ⟨he, os', hw⟩ => ⟨he, 0, os', hw⟩
 have hlt : ∀ x y : { i : Nat // i ∈ S }, ltOf (fun x y : { i : Nat // i ∈ S } => cmpBef rows x.1 y.1) x y = bef rows x.1 y.1 := fun x y => ltOf_cmpBef rows x.1 y.1
 have hpart : ∀ x y : { i : Nat // i ∈ S }, bef rows x.1 y.1 = false → bef rows y.1 x.1 = false → x = y := by
   intro x y h1 h2
   apply Subtype.ext
   apply Classical.byContradiction
   intro hxy
   have := htot x.1 x.2 y.1 y.2 hxy
   unfold relat at this
   simp [h1, h2] at this
 have hO : SWO (ltOf (fun x y : { i : Nat // i ∈ S } => cmpBef rows x.1 y.1)) := by
   refine ⟨fun x => ?_, fun x y z => ?_, fun x y z => ?_⟩
   · rw [hlt]; exact bef_irrefl _ _
   · rw [hlt, hlt, hlt]; exact bef_trans ht (hS _ x.2) (hS _ y.2) (hS _ z.2)
   · rw [hlt, hlt, hlt]
     intro h1 h2
     cases h3 : bef rows x.1 z.1 with
     | false => rfl
     | true =>
       cases h4 : bef rows y.1 x.1 with
       | true =>
         have := bef_trans ht (hS _ y.2) (hS _ x.2) (hS _ z.2) h4 h3
         rw [h2] at this; cases this
       | false =>
         have e := hpart x y h1 h4
         rw [e, h2] at h3; cases h3
 have key := Tryz.slices_SortFunc_total (fun x : { i : Nat // i ∈ S } => Value.int .i64 (x.1 : Nat)) (fun _ => rfl) (fun x y => cmpBef rows x.1 y.1) hO 74 #[.pointer (some ⟨Bx, 0, none⟩)] g 0 c S.attach.toArray w (enters_of Tryz.func74 (by kernel_rfl) rfl) hcmp hH' hgl (by simp; omega) (fun x y h1 h2 => hpart x y (by rw [← hlt]; exact h1) (by rw [← hlt]; exact h2))
 have hsz : S.attach.toArray.size = S.length := by simp
 rw [hsz] at key
 refine key.mono ?_
 rintro e w' ⟨he, m, os, rfl⟩
 refine ⟨he, ?_, hsw _ _ _⟩
 have hms : ((S.attach.mergeSort fun x y => !ltOf (fun x y : { i : Nat // i ∈ S } => cmpBef rows x.1 y.1) y x).toArray.map fun x => ((x.1 : Nat) : Int)) = (nats (sortB rows S)).toArray := by
   apply Array.ext'
   simp only [List.map_toArray, nats]
   have h1 : (S.attach.mergeSort fun x y => !ltOf (fun x y : { i : Nat // i ∈ S } => cmpBef rows x.1 y.1) y x).map Subtype.val = sortB rows S := by
     unfold sortB
     rw [List.map_mergeSort (s := fun i j => !bef rows j i) (fun a _ b _ => by rw [hlt]), List.attach_map_subtype_val]
   rw [← h1]
   simp
 unfold sortWorld
 rw [putRow_map (fun x : { i : Nat // i ∈ S } => ((x.1 : Nat) : Int))]
 have h2 : ((S.attach.toArray.toList.mergeSort fun x y => !ltOf (fun x y : { i : Nat // i ∈ S } => cmpBef rows x.1 y.1) y x).toArray.map fun x => ((x.1 : Nat) : Int)) = (nats (sortB rows S)).toArray := hms
 rw [h2]
 have hperm : (nats (sortB rows S)).length = (nats S).length := by simp [nats, sortB, List.length_mergeSort]
 have := ownsRow_sortedI (w := w) (base := base) (g := g) (cap := c) (n := m) (e := 3) (os := os) (cur := cur) (ss := nats S) (ts := nats (sortB rows S)) hperm hbg hg (by rw [nats_length]; exact hncap) hcm hcs
 rw [nats_length] at this
 exact this
end Go.Proofs.Lg

namespace Go.Proofs.Lg
open Go Go.RowKit Go.Shelf
def unset (rows : List (List Bool)) (living : List Nat) (i : Nat) : Bool := living.any fun j => decide (i ≠ j) && !relat rows i j
def inL (rows : List (List Bool)) (living l : List Nat) : List Nat := l.filter fun i => !unset rows living i
def outL (rows : List (List Bool)) (living l : List Nat) : List Nat := l.filter fun i => unset rows living i
theorem inL_snoc (rows : List (List Bool)) (living l : List Nat) (i : Nat) : inL rows living (l ++ [i]) = if unset rows living i then inL rows living l else inL rows living l ++ [i] := by
 unfold inL
 rw [List.filter_append]
 by_cases h : unset rows living i = true <;> simp [h]
theorem outL_snoc (rows : List (List Bool)) (living l : List Nat) (i : Nat) : outL rows living (l ++ [i]) = if unset rows living i then outL rows living l ++ [i] else outL rows living l := by
 unfold outL
 rw [List.filter_append]
 by_cases h : unset rows living i = true <;> simp [h]
theorem inL_rel {rows : List (List Bool)} {living : List Nat} {i j : Nat} (hi : i ∈ inL rows living living) (hj : j ∈ inL rows living living) (hij : i ≠ j) : relat rows i j = true := by
 unfold inL at *
 simp only [List.mem_filter, unset, List.any_eq_false, Bool.and_eq_true, decide_eq_true_eq, Bool.not_eq_eq_eq_not, Bool.not_true, not_and, Bool.not_eq_false] at *
 exact hi.2 j hj.1 hij
theorem ownsRow_base' {w : World} {base base' e n : Nat} {v : Value} {xs : List Value} (h : w.ownsRow base e 1 v n xs) (hb : base' ≤ base) : w.ownsRow base' e 1 v n xs := by
 refine ⟨h.1, ?_⟩
 rcases h.2 with h2 | ⟨g, cap, cur, hv, hbg, h3⟩
 · exact .inl h2
 · exact .inr ⟨g, cap, cur, hv, Nat.le_trans hb hbg, h3⟩
set_option maxHeartbeats 4000000 in
set_option maxRecDepth 100000 in
theorem settled_any (vl ve vr vv : Value) (n : Nat) (rows : List (List Bool)) (living : List Nat) (w : World) (ho : OdAt w vl ve vr vv rows living) (hq : Sq n rows) (hn : n ≤ 1000000) (hl : ∀ i ∈ living, i < n) (hll : living.length ≤ 1000000) (ht : TransR n rows) :
   Calls Tryz.prog 37 #[.agg #[vl, ve, vr, vv]] w fun e w' => ∃ v1 v2, e = .returned (.tuple #[v1, v2]) ∧ w'.ownsRow w.heap.size 3 1 v1 (sortB rows (inL rows living living)).length (ints (nats (sortB rows (inL rows living living)))) ∧ w'.ownsRow w.heap.size 3 1 v2 (outL rows living living).length (ints (nats (outL rows living living))) ∧ Below w.heap.size w w' := by
 obtain ⟨⟨al, cl, ml, rfl⟩, ⟨ae, ce, me, rfl⟩, hr, hv⟩ := ho
 have hv0 := hv
 obtain ⟨a, c, rfl, k1, k2, k3⟩ := hv
 rw [ints_length, nats_length] at k1 ⊢
 obtain ⟨ar, cr, mr, hvr⟩ : ∃ a c m, vr = .slice a m c := by obtain ⟨vs, ⟨a, c, h, _⟩, _⟩ := hr; exact ⟨a, c, _, h⟩
 subst hvr
 rw [ints_length, nats_length] at hv0
 have HR := Lib.hid hr
 have HV := Lib.hid hv0
 have HL := Lib.hid hl
 have HK := Lib.hid k3
 clear hr hv0 hl k3
 go_enter Tryz.func37, Tryz.ntmps37
 go_wp2
 go_loopg [4, 5, 11] (living.length + 1) (fun gk vi vo i wr => ∃ (k : Nat), i = .int .i64 k ∧ k ≤ living.length ∧ gk + k = living.length + 1 ∧
   wr.ownsRow (w.heap.size + 1) 3 1 vi (inL rows living (living.take k)).length (ints (nats (inL rows living (living.take k)))) ∧
   wr.ownsRow (w.heap.size + 1) 3 1 vo (outL rows living (living.take k)).length (ints (nats (outL rows living (living.take k)))) ∧
   (vi.ownBlock = none ∨ vi.ownBlock ≠ vo.ownBlock) ∧ Below (w.heap.size + 1) (w.alloc (.cells #[.slice al ml cl, .slice ae me ce, .slice ar mr cr, .slice a living.length c] 78)) wr)
 case atStart => exact ⟨0, rfl, Nat.zero_le _, rfl, World.ownsRow_nil _ _ _ _, World.ownsRow_nil _ _ _ _, .inl rfl, Below.refl _ _⟩
 case round =>
   obtain ⟨k, rfl, hk, hgk, hin, hout, hdis, hB⟩ := hrel
   have hB0 : Below w.heap.size w wr := ((Below.refl _ _).alloc (Nat.le_refl _) _).trans (hB.mono (by omega))
   have hsz : w.heap.size + 1 ≤ wr.heap.size := by have := hB.size; simpa using this
   obtain ⟨ai, ci, hvi⟩ := ownsRow_form hin
   obtain ⟨ao, co, hvo⟩ := ownsRow_form hout
   subst hvi hvo
   have HI := Lib.hid hin
   have HO := Lib.hid hout
   have HD := Lib.hid hdis
   have HB := Lib.hid hB
   have x0 : wr.cell? ⟨w.heap.size, 0, none⟩ = some (.slice al ml cl) := (hB.cell (by simp)).trans (by simp [go_sem])
   have x1 : wr.cell? ⟨w.heap.size, 1, none⟩ = some (.slice ae me ce) := (hB.cell (by simp)).trans (by simp [go_sem])
   have x2 : wr.cell? ⟨w.heap.size, 2, none⟩ = some (.slice ar mr cr) := (hB.cell (by simp)).trans (by simp [go_sem])
   have x3 : wr.cell? ⟨w.heap.size, 3, none⟩ = some (.slice a living.length c) := (hB.cell (by simp)).trans (by simp [go_sem])
   clear hin hout hdis hB
   by_cases hlt : k < living.length
   · obtain ⟨b, off, hab, hc⟩ := HK.out (by intro e; have := congrArg List.length e; simp [ints, nats] at this; subst this; simp at hlt)
     subst hab
     have hcell := below_cell hB0 (hc k (.int .i64 (living[k] : Nat)) (by simp [ints, nats, hlt]))
     have hlt1 : w.heap.size < wr.heap.size := by omega
     have hbl : b < wr.heap.size := cell_lt hcell
     have hkn := HL.out living[k] (List.getElem_mem _)
     have hti : inL rows living (living.take (k + 1)) = if unset rows living living[k] then inL rows living (living.take k) else inL rows living (living.take k) ++ [living[k]] := by
       rw [List.take_succ_eq_append_getElem hlt, inL_snoc]
     have hto : outL rows living (living.take (k + 1)) = if unset rows living living[k] then outL rows living (living.take k) ++ [living[k]] else outL rows living (living.take k) := by
       rw [List.take_succ_eq_append_getElem hlt, outL_snoc]
     have hle1 : (inL rows living (living.take k)).length ≤ 1000000 := by
       have := List.length_filter_le (fun i => !unset rows living i) (living.take k)
       simp only [List.length_take] at this
       unfold inL; omega
     have hle2 : (outL rows living (living.take k)).length ≤ 1000000 := by
       have := List.length_filter_le (fun i => unset rows living i) (living.take k)
       simp only [List.length_take] at this
       unfold outL; omega
     generalize living[k] = i at hcell hkn hti hto
     have hpok : PredOk Tryz.prog 71 #[.pointer (some ⟨wr.heap.size, 0, none⟩), .pointer (some ⟨w.heap.size, 0, none⟩)] (fun x => 0 ≤ x ∧ x < n) (fun x => decide (i ≠ x.toNat) && !relat rows i x.toNat) (wr.alloc (.cells #[.int .i64 i] 3)) := by
       rintro x ⟨hx0, hxn⟩ W hW
       have hbw : Below wr.heap.size wr W := ((Below.refl _ _).alloc (Nat.le_refl _) _).trans (hW.mono (by simp))
       have := settled1_any (.slice al ml cl) (.slice ae me ce) (.slice ar mr cr) (.slice (some ⟨b, off, none⟩) living.length c) n i x.toNat wr.heap.size w.heap.size rows W (HR.out.below (hB0.trans (hbw.mono hB0.size))) hq hkn (by omega) hn (below_cell hW (by simp [go_sem])) (below_cell hbw x0) (below_cell hbw x1) (below_cell hbw x2) (below_cell hbw x3)
       rw [Int.toNat_of_nonneg hx0] at this
       exact this
     have hcall := ContainsFuncInt_any (nats living) (.slice (some ⟨b, off, none⟩) living.length c) 71 _ _ _ _ ((HV.out.below hB0).below ((Below.refl _ _).alloc (Nat.le_refl _) (.cells #[.int .i64 i] 3))) (mem_nats HL.out) (by rw [nats_length]; omega) (enters_of Tryz.func71 (by kernel_rfl) rfl) hpok
     rw [any_nats] at hcall
     have hun : (living.any fun j => decide (i ≠ ((j : Int)).toNat) && !relat rows i ((j : Int)).toNat) = unset rows living i := by simp [unset]
     rw [hun] at hcall
     generalize unset rows living i = u at hti hto hcall
     have HTI := Lib.hid hti
     have HTO := Lib.hid hto
     have HC := Lib.hid hcall
     clear hti hto hcall hpok hun hc
     cases u with
     | true =>
       go_wp2_with fail
       refine HC.out.mono ?_
       rintro e w1 ⟨rfl, hb1⟩
       have hbw : Below wr.heap.size wr w1 := ((Below.refl _ _).alloc (Nat.le_refl _) _).trans (hb1.mono (by simp))
       have z0 : w1.cell? ⟨wr.heap.size, 0, none⟩ = some (.int .i64 i) := below_cell hb1 (by simp [go_sem])
       have hs1 := hb1.size
       simp at hs1
       have HBW := Lib.hid hbw
       have HS1 := Lib.hid hs1
       have HO2 : Hid ((w1.alloc (.cells #[.int .i64 i] 3)).ownsRow (w.heap.size + 1) 3 1 (.slice ao (outL rows living (living.take k)).length co) (outL rows living (living.take k)).length (ints (nats (outL rows living (living.take k))))) := ownsRow_below (ownsRow_below HO.out hbw) ((Below.refl _ _).alloc (Nat.le_refl _) _)
       have HSRC : Hid (SrcAt (w1.alloc (.cells #[.int .i64 i] 3)) (.slice (some ⟨w1.heap.size, 0, none⟩) 1 1) 1 1 [.int .i64 i]) := by
         refine SrcAt.one _ _ _ [.int .i64 i] fun j u hu => ?_
         cases j with
         | zero => simp at hu; subst hu; simp [go_sem]
         | succ j => simp at hu
       have HONE : Hid (∀ u ∈ [Value.int .i64 (i : Int)], u.oneCell' = true) := by
         intro u hu; simp at hu; subst hu; rfl
       have HBS : Hid (w.heap.size + 1 ≤ (w1.alloc (.cells #[.int .i64 i] 3)).heap.size) := by show _ ≤ _; simp; omega
       clear hb1 hbw
       go_wp2_with (at_builtin; refine wpList_app rfl _ _ _ rfl (w.heap.size + 1) 3 (.int .i64 0) 1 8 Tryz.underlying29 info_int rfl (by decide) _ (outL rows living (living.take k)).length (ints (nats (outL rows living (living.take k)))) rfl HO2.out _ 1 [.int .i64 i] rfl HSRC.out HONE.out (by omega) (by omega) HBS.out ?_; intro a' c' w2 hown2 hgrow2 hat2)
       go_roundg (gk - 1)
       case measure => omega
       case rel =>
         refine ⟨k + 1, by go_num, by omega, by omega, ?_, ?_, ?_, ?_⟩
         · rw [HTI.out]
           exact (ownsRow_below (ownsRow_below HI.out HBW.out) ((Below.refl _ _).alloc (Nat.le_refl _) _)).kept hgrow2 HD.out
         · rw [HTO.out]
           simpa [ints, nats] using hown2
         · rcases HD.out with h | h
           · exact .inl h
           · rcases hat2 with e | e
             · rw [e]; exact .inr h
             · right
               rw [e]
               intro e2
               have := (HI.out.lt _ e2).2
               have := HS1.out
               simp at *
               omega
         · refine Below.grown ((HB.out.trans (HBW.out.mono (by omega))).alloc (by have := HS1.out; omega) _) hgrow2 (by have := HS1.out; simp; omega) (fun j hj => (HO.out.lt j hj).1)
     | false =>
       go_wp2_with fail
       refine HC.out.mono ?_
       rintro e w1 ⟨rfl, hb1⟩
       have hbw : Below wr.heap.size wr w1 := ((Below.refl _ _).alloc (Nat.le_refl _) _).trans (hb1.mono (by simp))
       have z0 : w1.cell? ⟨wr.heap.size, 0, none⟩ = some (.int .i64 i) := below_cell hb1 (by simp [go_sem])
       have hs1 := hb1.size
       simp at hs1
       have HBW := Lib.hid hbw
       have HS1 := Lib.hid hs1
       have HO2 : Hid ((w1.alloc (.cells #[.int .i64 i] 3)).ownsRow (w.heap.size + 1) 3 1 (.slice ai (inL rows living (living.take k)).length ci) (inL rows living (living.take k)).length (ints (nats (inL rows living (living.take k))))) := ownsRow_below (ownsRow_below HI.out hbw) ((Below.refl _ _).alloc (Nat.le_refl _) _)
       have HSRC : Hid (SrcAt (w1.alloc (.cells #[.int .i64 i] 3)) (.slice (some ⟨w1.heap.size, 0, none⟩) 1 1) 1 1 [.int .i64 i]) := by
         refine SrcAt.one _ _ _ [.int .i64 i] fun j u hu => ?_
         cases j with
         | zero => simp at hu; subst hu; simp [go_sem]
         | succ j => simp at hu
       have HONE : Hid (∀ u ∈ [Value.int .i64 (i : Int)], u.oneCell' = true) := by
         intro u hu; simp at hu; subst hu; rfl
       have HBS : Hid (w.heap.size + 1 ≤ (w1.alloc (.cells #[.int .i64 i] 3)).heap.size) := by show _ ≤ _; simp; omega
       clear hb1 hbw
       go_wp2_with (at_builtin; refine wpList_app rfl _ _ _ rfl (w.heap.size + 1) 3 (.int .i64 0) 1 8 Tryz.underlying29 info_int rfl (by decide) _ (inL rows living (living.take k)).length (ints (nats (inL rows living (living.take k)))) rfl HO2.out _ 1 [.int .i64 i] rfl HSRC.out HONE.out (by omega) (by omega) HBS.out ?_; intro a' c' w2 hown2 hgrow2 hat2)
       go_roundg (gk - 1)
       case measure => omega
       case rel =>
         have hdis' : (Value.slice ao (outL rows living (living.take k)).length co).ownBlock = none ∨ (Value.slice ao (outL rows living (living.take k)).length co).ownBlock ≠ (Value.slice ai (inL rows living (living.take k)).length ci).ownBlock := by
           cases hoo : (Value.slice ao (outL rows living (living.take k)).length co).ownBlock with
           | none => exact .inl rfl
           | some z =>
             right
             rcases HD.out with h | h
             · rw [h]; simp
             · rw [← hoo]; exact fun e => h e.symm
         refine ⟨k + 1, by go_num, by omega, by omega, ?_, ?_, ?_, ?_⟩
         · rw [HTI.out]
           simpa [ints, nats] using hown2
         · rw [HTO.out]
           exact (ownsRow_below (ownsRow_below HO.out HBW.out) ((Below.refl _ _).alloc (Nat.le_refl _) _)).kept hgrow2 hdis'
         · right
           rcases hat2 with e | e
           · rw [e]
             rcases hdis' with h | h
             · rw [h]
               obtain ⟨z, hz⟩ : ∃ z, (Value.slice a' ((inL rows living (living.take k)).length + 1) c').ownBlock = some z := by
                 obtain ⟨g, cap, hv, _⟩ := hown2.form (by omega)
                 exact ⟨g, by rw [hv]; rfl⟩
               rw [← e, hz]; simp
             · exact fun e2 => h e2.symm
           · rw [e]
             intro e2
             have := (HO.out.lt _ e2.symm).2
             have := HS1.out
             simp at *
             omega
         · refine Below.grown ((HB.out.trans (HBW.out.mono (by omega))).alloc (by have := HS1.out; omega) _) hgrow2 (by have := HS1.out; simp; omega) (fun j hj => (HI.out.lt j hj).1)
   · obtain rfl : k = living.length := by omega
     have hsl1 := List.take_length (l := living)
     rw [hsl1] at HI HO HD
     have hinm : ∀ i ∈ inL rows living living, i ∈ living := fun i hi => (List.mem_filter.1 hi).1
     have hle1 : (inL rows living living).length ≤ 1000000 := Nat.le_trans (List.length_filter_le _ _) hll
     have hlt1 : w.heap.size < wr.heap.size := by omega
     by_cases hne : inL rows living living = []
     · have hl0 : (inL rows living living).length = 0 := by rw [hne]; rfl
       have hs0 : sortB rows (inL rows living living) = inL rows living living := by rw [hne]; simp [sortB]
       have HIN : Hid (Calls Tryz.prog 73 #[.slice ai (inL rows living living).length ci, .func (.func 74) #[] #[.pointer (some ⟨w.heap.size, 0, none⟩)]] wr fun e w' => e = .returned (.tuple #[]) ∧ w' = wr) := by
         rw [hl0]
         exact Lib.hid (Tryz.slices_SortFunc_none (α := Int) ai ci _ wr)
       have HV1 : Hid (wr.ownsRow w.heap.size 3 1 (.slice ai (inL rows living living).length ci) (sortB rows (inL rows living living)).length (ints (nats (sortB rows (inL rows living living))))) := by
         rw [hs0]
         exact Lib.hid (ownsRow_base' HI.out (by omega))
       clear hs0 hne hl0
       go_wp2_with fail
       refine HIN.out.mono ?_
       rintro e w1 ⟨rfl, rfl⟩
       go_wp2_with fail
       go_ret2
       exact ⟨_, _, rfl, HV1.out, ownsRow_base' HO.out (by omega), ((Below.refl _ _).alloc (Nat.le_refl _) _).trans (HB.out.mono (by omega))⟩
     · obtain ⟨g, cap, hv, hbg⟩ : ∃ g cap, (Value.slice ai (inL rows living living).length ci) = .slice (some ⟨g, 0, none⟩) (inL rows living living).length cap ∧ w.heap.size + 1 ≤ g := by
         rcases HI.out.2 with ⟨h, _⟩ | ⟨g, cap, cur, hv, hbg, _⟩
         · exfalso
           have : (inL rows living living).length = 0 := by injection h
           exact hne (List.eq_nil_of_length_eq_zero this)
         · exact ⟨g, cap, by simpa using hv, hbg⟩
       obtain ⟨rfl, rfl⟩ : ai = some ⟨g, 0, none⟩ ∧ ci = cap := by simpa using hv
       have hRP : SlOfP (fun b => b ≠ g) wr (.slice ar mr cr) (rows.map bools) :=
         ((HR.out.slOfP.stays (fun b hb _ => hB0.block b hb)).mono (fun b hb => by omega))
       have HC := Lib.hid (sort_any (.slice al ml cl) (.slice ae me ce) (.slice ar mr cr) (.slice a living.length c) n g ci (w.heap.size + 1) w.heap.size (inL rows living living) rows wr hRP hq hn (fun i hi => HL.out i (hinm i hi)) hne ht (fun i hi j hj => inL_rel hi hj) HI.out hle1 (by omega) x0 x1 x2 x3)
       clear hRP hv
       have hpl : (sortB rows (inL rows living living)).length = (inL rows living living).length := by simp [sortB, List.length_mergeSort]
       go_wp2_with fail
       refine HC.out.mono ?_
       rintro e w1 ⟨rfl, hown1, hg1⟩
       have HG := Lib.hid hg1
       have HW := Lib.hid hown1
       clear hown1 hg1
       have HK2 : Hid (w1.ownsRow w.heap.size 3 1 (.slice ao (outL rows living living).length co) (outL rows living living).length (ints (nats (outL rows living living)))) := by
         refine Lib.hid (ownsRow_base' (HO.out.kept HG.out ?_) (by omega))
         rcases HD.out with h | h
         · simp [Value.ownBlock] at h
         · right; exact fun e => h e.symm
       go_wp2_with fail
       go_ret2
       refine ⟨_, _, rfl, by rw [hpl]; exact ownsRow_base' HW.out (by omega), HK2.out, ?_⟩
       · exact (((Below.refl _ _).alloc (Nat.le_refl _) _).trans (HB.out.mono (by omega))).grown HG.out (by omega) (fun j hj => by obtain rfl := Option.some.inj hj; omega)
end Go.Proofs.Lg

namespace Go.Proofs.Lg
open Go Go.RowKit Go.Shelf Go.Sort
theorem AppendSeqInt_any (sv : Value) (Bs : Nat) (zs : List Int) (hlen : zs.length ≤ 1000000) (w : World) (hc : w.cell? ⟨Bs, 0, none⟩ = some sv) (hI : SlAt w sv (ints zs)) :
   Calls Tryz.prog 152 #[.slice none 0 0, .func (.func 149) #[] #[.pointer (some ⟨Bs, 0, none⟩)]] w fun e W' => ∃ v, e = .returned v ∧ W'.ownsRow w.heap.size 3 1 v zs.length (ints zs) ∧ Below w.heap.size w W' :=
 callsIn_wide.1 (appendSeq_in Fence.wide 3 trivial trivial rfl (Nat.le_refl _) sv Bs zs hlen w (cell_lt hc) hc hI)
theorem ValuesInt_any (a : Option Addr) (len cap : Nat) (w : World) :
   Calls Tryz.prog 133 #[.slice a len cap] w fun e w' => e = .returned (.func (.func 149) #[] #[.pointer (some ⟨w.heap.size, 0, none⟩)]) ∧ w' = w.alloc (.cells #[.slice a len cap] 29) :=
 callsIn_wide.1 (values_in Fence.wide 1 trivial rfl a len cap w)
set_option maxHeartbeats 1000000 in
theorem CollectInt_any (sv : Value) (Bs : Nat) (zs : List Int) (hlen : zs.length ≤ 1000000) (w : World) (hc : w.cell? ⟨Bs, 0, none⟩ = some sv) (hI : SlAt w sv (ints zs)) :
   Calls Tryz.prog 147 #[.func (.func 149) #[] #[.pointer (some ⟨Bs, 0, none⟩)]] w fun e W' => ∃ v, e = .returned v ∧ W'.ownsRow w.heap.size 3 1 v zs.length (ints zs) ∧ Below w.heap.size w W' := by
 have HC := Lib.hid (AppendSeqInt_any sv Bs zs hlen w hc hI)
 clear hc hI
 go_enter Tryz.func147, Tryz.ntmps147
 go_wp2_with fail
 refine HC.out.mono ?_
 rintro e w1 ⟨v, rfl, hown, hB⟩
 have H := Lib.hid (And.intro hown hB)
 clear hown hB
 go_wp2
 go_ret
 exact ⟨_, rfl, H.out.1, H.out.2⟩
set_option maxHeartbeats 1000000 in
theorem SortedInt_any (sv : Value) (Bs : Nat) (zs : List Int) (hlen : zs.length ≤ 1000000) (w : World) (hc : w.cell? ⟨Bs, 0, none⟩ = some sv) (hI : SlAt w sv (ints zs)) :
   Calls Tryz.prog 132 #[.func (.func 149) #[] #[.pointer (some ⟨Bs, 0, none⟩)]] w fun e W' => ∃ v, e = .returned v ∧ W'.ownsRow w.heap.size 3 1 v zs.length (ints (zs.mergeSort fun x y => decide (x ≤ y))) ∧ Below w.heap.size w W' := by
 have HC := Lib.hid (CollectInt_any sv Bs zs hlen w hc hI)
 clear hc hI
 go_enter Tryz.func132, Tryz.ntmps132
 go_wp2_with fail
 refine HC.out.mono ?_
 rintro e W ⟨v, rfl, hrow, hB⟩
 rcases hrow.2 with ⟨rfl, hz⟩ | ⟨gb, cap, cur, rfl, hbase, hgb, r1, r2, r3, r4⟩
 · have hss : zs = [] := List.eq_nil_of_length_eq_zero hz
   have H := Lib.hid (And.intro hrow hB)
   have HS := Lib.hid (Tryz.slices_Sort_int_none none 0 W)
   subst hss
   clear hrow hB
   go_wp2_with fail
   refine HS.out.mono ?_
   rintro e w1 ⟨rfl, rfl⟩
   go_wp2
   go_ret
   exact ⟨_, rfl, by simpa using H.out.1, H.out.2⟩
 · have hH : Holds (Value.int .i64) W gb 0 zs.toArray := holds_of_blockI hgb (by simpa [ints] using r4)
   have hgl : gb < W.heap.size := (Array.getElem?_eq_some_iff.1 hgb).1
   have HS := Lib.hid (Tryz.slices_Sort_int gb 0 cap zs W hH hgl (by omega))
   have H := Lib.hid hB
   have HG := Lib.hid (And.intro hgb (And.intro r2 (And.intro r3 (And.intro hbase r1))))
   clear hrow hB hgb r2 r3 r4 hH r1 hbase
   go_wp2_with fail
   refine HS.out.mono ?_
   rintro e w1 ⟨rfl, n, os, rfl⟩
   go_wp2
   go_ret
   obtain ⟨hgb, r2, r3, hbase, r1⟩ := HG.out
   refine ⟨_, rfl, ?_, H.out.grown (grownBy_sortedI _) H.out.size (fun j hj => by cases hj; exact hbase)⟩
   exact ownsRow_sortedI (by simp) hbase hgb r1 r2 r3
def sortI (l : List Nat) : List Nat := l.mergeSort fun x y => decide (x ≤ y)
theorem sortI_length (l : List Nat) : (sortI l).length = l.length := by simp [sortI, List.length_mergeSort]
theorem nats_sortI (l : List Nat) : nats (sortI l) = (nats l).mergeSort fun x y => decide (x ≤ y) := by
 unfold nats sortI
 exact List.map_mergeSort (s := fun x y : Int => decide (x ≤ y)) (fun a _ b _ => by simp)
end Go.Proofs.Lg
