/-
  Part S1 of this claim's proof. Joined by merge.py from the texts of wip/tpl.
-/
import Derived.Test.YtclholnhkhjjaaaGreatC8
import Derived.Test.YtclholnhkhjjaaaGreatShelf
import Derived.Sort.OwnSortedInts
set_option linter.unusedVariables false
set_option linter.unusedSimpArgs false
set_option linter.unnecessarySimpa false
namespace Go.Proofs.Lg
open Go Go.RowKit Go.Shelf Go.Sort

set_option maxHeartbeats 400000 in
theorem before_x (vl ve vr vv : Value) (n i j : Nat) (rows : List (List Bool)) (w : World) (h : SlOf w vr (rows.map bools)) (hq : Sq n rows) (hi : i < n) (hj : j < n) (hn : n ≤ 1000000) :
    Calls Tryz.prog 75 #[.agg #[vl, ve, vr, vv], .int .i64 i, .int .i64 j] w fun e w' => e = .returned (.bool (bef rows i j)) ∧ ∃ os, w' = grow w os := by
  obtain ⟨b, off, c, rfl, hc⟩ := h.form hq (by omega)
  obtain ⟨bi, oi, ci, c1, c2⟩ := hc i j hi hj
  obtain ⟨bj, oj, cj, c3, c4⟩ := hc j i hj hi
  have hb := cell_lt c1
  have hbi := cell_lt c2
  have hbj := cell_lt c4
  unfold bef
  generalize rel rows i j = x at c2 ⊢
  generalize rel rows j i = y at c4 ⊢
  clear hc hq h
  cases x <;>
  · go_enter Tryz.func75, Tryz.ntmps75
    go_wp2
    go_ret
    exact ⟨rfl, _, alloc_eq_grow _ _⟩

set_option maxHeartbeats 1000000 in
theorem settled2_x (vl ve vr vv : Value) (n i j Bx : Nat) (rows : List (List Bool)) (w : World) (h : SlOf w vr (rows.map bools)) (hq : Sq n rows) (hi : i < n) (hj : j < n) (hn : n ≤ 1000000)
    (x0 : w.cell? ⟨Bx, 0, none⟩ = some vl) (x1 : w.cell? ⟨Bx, 1, none⟩ = some ve) (x2 : w.cell? ⟨Bx, 2, none⟩ = some vr) (x3 : w.cell? ⟨Bx, 3, none⟩ = some vv) :
    Calls Tryz.prog 74 #[.int .i64 i, .int .i64 j, .pointer (some ⟨Bx, 0, none⟩)] w fun e w' => e = .returned (.int .i64 (cmpBef rows i j)) ∧ ∃ os, w' = grow w os := by
  unfold cmpBef
  by_cases hij : i = j
  · have h1 : ((i : Int) == (j : Int)) = true := by simp [hij]
    rw [if_pos hij]
    clear hij
    go_enter Tryz.func74, Tryz.ntmps74
    go_wp2
    go_ret
    exact ⟨rfl, #[], (grow_empty _).symm⟩
  · have h1 : ((i : Int) == (j : Int)) = false := by simp; omega
    rw [if_neg hij]
    have HS := Lib.hid h
    clear hij h
    have hbf := before_x vl ve vr vv n i j rows w HS.out hq hi hj hn
    generalize bef rows i j = x at hbf ⊢
    have HBF := Lib.hid hbf
    clear hbf
    cases x <;>
    · go_enter Tryz.func74, Tryz.ntmps74
      go_wp2_with (go_at_call 75; refine HBF.out.mono ?_; rintro e w1 ⟨rfl, os, rfl⟩)
      go_ret
      exact ⟨rfl, os, rfl⟩

/-- 'reaches' is transitive on the lines 0 .. n-1. -/
def TransR (n : Nat) (rows : List (List Bool)) : Prop := ∀ i j k, i < n → j < n → k < n → rel rows i j = true → rel rows j k = true → rel rows i k = true

theorem bef_irrefl (rows : List (List Bool)) (i : Nat) : bef rows i i = false := by unfold bef; cases rel rows i i <;> rfl
theorem bef_trans {n : Nat} {rows : List (List Bool)} (ht : TransR n rows) {i j k : Nat} (hi : i < n) (hj : j < n) (hk : k < n) (h1 : bef rows i j = true) (h2 : bef rows j k = true) : bef rows i k = true := by
  unfold bef at *
  simp only [Bool.and_eq_true, Bool.not_eq_true'] at *
  refine ⟨ht i j k hi hj hk h1.1 h2.1, ?_⟩
  cases h : rel rows k i with
  | false => rfl
  | true =>
    have := ht k i j hk hi hj h h1.1
    rw [h2.2] at this; cases this
theorem bef_asymm {rows : List (List Bool)} {i j : Nat} (h1 : bef rows i j = true) : bef rows j i = false := by
  unfold bef at *
  simp only [Bool.and_eq_true, Bool.not_eq_true'] at h1
  simp [h1.1, h1.2]

/-- The lines of S in order. -/
def sortB (rows : List (List Bool)) (S : List Nat) : List Nat := S.mergeSort fun i j => !bef rows j i

theorem putCells_map {α : Type} [Inhabited α] (f : α → Int) (off : Nat) (d : Array α) (c : Array Value) : putCells (fun x => Value.int .i64 (f x)) off d c = putCells (Value.int .i64) off (d.map f) c := by
  unfold putCells
  congr 1
  funext k x
  by_cases h : off ≤ k ∧ k < off + d.size
  · have hk : k - off < d.size := by omega
    simp [h, hk]
  · simp [h]
theorem putRow_map {α : Type} [Inhabited α] (f : α → Int) (w : World) (blk off : Nat) (d : Array α) : putRow (fun x => Value.int .i64 (f x)) w blk off d = putRow (Value.int .i64) w blk off (d.map f) := by
  unfold putRow
  congr 1
  funext c
  exact putCells_map f off d c

theorem ltOf_cmpBef (rows : List (List Bool)) (i j : Nat) : decide (cmpBef rows i j < 0) = bef rows i j := by
  unfold cmpBef
  by_cases h : i = j
  · subst h; simp [bef_irrefl]
  · cases hb : bef rows i j <;> simp [h]

theorem sort_any (vl ve vr vv : Value) (n g c base Bx : Nat) (S : List Nat) (rows : List (List Bool)) (w : World) (hr : SlOfP (fun b => b ≠ g) w vr (rows.map bools)) (hq : Sq n rows) (hn : n ≤ 1000000) (hS : ∀ i ∈ S, i < n) (hne : S ≠ [])
    (ht : TransR n rows) (htot : ∀ i ∈ S, ∀ j ∈ S, i ≠ j → relat rows i j = true) (hown : w.ownsRow base 3 1 (.slice (some ⟨g, 0, none⟩) S.length c) S.length (ints (nats S))) (hll : S.length ≤ 1000000) (hBx : Bx ≠ g)
    (x0 : w.cell? ⟨Bx, 0, none⟩ = some vl) (x1 : w.cell? ⟨Bx, 1, none⟩ = some ve) (x2 : w.cell? ⟨Bx, 2, none⟩ = some vr) (x3 : w.cell? ⟨Bx, 3, none⟩ = some vv) :
    Calls Tryz.prog 73 #[.slice (some ⟨g, 0, none⟩) S.length c, .func (.func 74) #[] #[.pointer (some ⟨Bx, 0, none⟩)]] w fun e w' =>
      e = .returned (.tuple #[]) ∧ w'.ownsRow base 3 1 (.slice (some ⟨g, 0, none⟩) S.length c) S.length (ints (nats (sortB rows S))) ∧ w.grownBy w' (some g) := by
  obtain ⟨s0, S', rfl⟩ : ∃ s S', S = s :: S' := by cases S with | nil => exact absurd rfl hne | cons s S' => exact ⟨s, S', rfl⟩
  generalize hSS : s0 :: S' = S at *
  have hs0 : s0 ∈ S := by rw [← hSS]; simp
  haveI : Inhabited { i : Nat // i ∈ S } := ⟨⟨s0, hs0⟩⟩
  rcases hown.2 with ⟨h, _⟩ | ⟨g', cap, cur, hv, hbg, hg, hncap, hcm, hcs, htake⟩
  · simp at h
  obtain ⟨rfl, rfl⟩ : g = g' ∧ c = cap := by simpa using hv
  have hlen : S.attach.length = S.length := by simp
  have hmap : (S.attach.toArray.map fun x => ((x.1 : Nat) : Int)) = (nats S).toArray := by
    apply Array.ext'
    simp only [List.map_toArray, nats]
    have : S.attach.map (fun x => ((x.1 : Nat) : Int)) = (S.attach.map Subtype.val).map Int.ofNat := by simp
    rw [this, List.attach_map_subtype_val]
  have hH : Holds (Value.int .i64) w g 0 (nats S).toArray := holds_of_blockI hg (by rw [nats_length]; simpa [ints] using htake)
  have hH' : Holds (fun x : { i : Nat // i ∈ S } => Value.int .i64 (x.1 : Nat)) w g 0 S.attach.toArray := by
    intro j hj
    have hj' : j < S.length := by simpa using hj
    have := hH j (by simpa [nats] using hj')
    refine ⟨?_, this.2⟩
    rw [this.1]
    simp [nats, hj']
  have hgl : g < w.heap.size := (Array.getElem?_eq_some_iff.1 hg).1
  have hsw : ∀ (m : Nat) (os : Array Obj) (dk : Array { i : Nat // i ∈ S }), w.grownBy (sortWorld (fun x : { i : Nat // i ∈ S } => Value.int .i64 (x.1 : Nat)) w g 0 m dk os) (some g) := by
    intro m os dk
    unfold sortWorld
    rw [putRow_map (fun x : { i : Nat // i ∈ S } => ((x.1 : Nat) : Int))]
    exact grownBy_sortedI _
  have hcmp : CmpLays1 Tryz.prog 74 #[.pointer (some ⟨Bx, 0, none⟩)] (fun x : { i : Nat // i ∈ S } => Value.int .i64 (x.1 : Nat)) (fun x y => cmpBef rows x.1 y.1) g 0 S.attach.toArray.size w := by
    intro m os dk _ x y
    have hg2 := hsw m os dk
    have hk : ∀ j u, w.cell? ⟨Bx, j, none⟩ = some u → (sortWorld (fun x : { i : Nat // i ∈ S } => Value.int .i64 (x.1 : Nat)) w g 0 m dk os).cell? ⟨Bx, j, none⟩ = some u := fun j u h => hg2.cell h (by simpa using hBx)
    have := settled2_x vl ve vr vv n x.1 y.1 Bx rows _ ((hr.stays (fun b hb hb' => hg2.block b hb' (fun e => hb (Option.some.inj e)))).slOf) hq (hS _ x.2) (hS _ y.2) hn (hk _ _ x0) (hk _ _ x1) (hk _ _ x2) (hk _ _ x3)
    exact this.mono fun e w' ⟨he, os', hw⟩ => ⟨he, 0, os', hw⟩
  have hlt : ∀ x y : { i : Nat // i ∈ S }, ltOf (fun x y : { i : Nat // i ∈ S } => cmpBef rows x.1 y.1) x y = bef rows x.1 y.1 := fun x y => ltOf_cmpBef rows x.1 y.1
  have hpart : ∀ x y : { i : Nat // i ∈ S }, bef rows x.1 y.1 = false → bef rows y.1 x.1 = false → x = y := by
    intro x y h1 h2
    apply Subtype.ext
    apply Classical.byContradiction
    intro hxy
    have := htot x.1 x.2 y.1 y.2 hxy
    unfold relat at this
    simp [h1, h2] at this
  have hO : SWO (ltOf (fun x y : { i : Nat // i ∈ S } => cmpBef rows x.1 y.1)) := by
    refine ⟨fun x => ?_, fun x y z => ?_, fun x y z => ?_⟩
    · rw [hlt]; exact bef_irrefl _ _
    · rw [hlt, hlt, hlt]; exact bef_trans ht (hS _ x.2) (hS _ y.2) (hS _ z.2)
    · rw [hlt, hlt, hlt]
      intro h1 h2
      cases h3 : bef rows x.1 z.1 with
      | false => rfl
      | true =>
        cases h4 : bef rows y.1 x.1 with
        | true =>
          have := bef_trans ht (hS _ y.2) (hS _ x.2) (hS _ z.2) h4 h3
          rw [h2] at this; cases this
        | false =>
          have e := hpart x y h1 h4
          rw [e, h2] at h3; cases h3
  have key := Tryz.slices_SortFunc_total (fun x : { i : Nat // i ∈ S } => Value.int .i64 (x.1 : Nat)) (fun _ => rfl) (fun x y => cmpBef rows x.1 y.1) hO 74 #[.pointer (some ⟨Bx, 0, none⟩)] g 0 c S.attach.toArray w (enters_of Tryz.func74 (by kernel_rfl) rfl) hcmp hH' hgl (by simp; omega) (fun x y h1 h2 => hpart x y (by rw [← hlt]; exact h1) (by rw [← hlt]; exact h2))
  have hsz : S.attach.toArray.size = S.length := by simp
  rw [hsz] at key
  refine key.mono ?_
  rintro e w' ⟨he, m, os, rfl⟩
  refine ⟨he, ?_, hsw _ _ _⟩
  have hms : ((S.attach.mergeSort fun x y => !ltOf (fun x y : { i : Nat // i ∈ S } => cmpBef rows x.1 y.1) y x).toArray.map fun x => ((x.1 : Nat) : Int)) = (nats (sortB rows S)).toArray := by
    apply Array.ext'
    simp only [List.map_toArray, nats]
    have h1 : (S.attach.mergeSort fun x y => !ltOf (fun x y : { i : Nat // i ∈ S } => cmpBef rows x.1 y.1) y x).map Subtype.val = sortB rows S := by
      unfold sortB
      rw [List.map_mergeSort (s := fun i j => !bef rows j i) (fun a _ b _ => by rw [hlt]), List.attach_map_subtype_val]
    rw [← h1]
    simp
  unfold sortWorld
  rw [putRow_map (fun x : { i : Nat // i ∈ S } => ((x.1 : Nat) : Int))]
  have h2 : ((S.attach.toArray.toList.mergeSort fun x y => !ltOf (fun x y : { i : Nat // i ∈ S } => cmpBef rows x.1 y.1) y x).toArray.map fun x => ((x.1 : Nat) : Int)) = (nats (sortB rows S)).toArray := hms
  rw [h2]
  have hperm : (nats (sortB rows S)).length = (nats S).length := by simp [nats, sortB, List.length_mergeSort]
  have := ownsRow_sortedI (w := w) (base := base) (g := g) (cap := c) (n := m) (e := 3) (os := os) (cur := cur) (ss := nats S) (ts := nats (sortB rows S)) hperm hbg hg (by rw [nats_length]; exact hncap) hcm hcs
  rw [nats_length] at this
  exact this
end Go.Proofs.Lg
