/-
  Part C7 of this claim's proof. Joined by merge.py from the texts of wip/tpl.
-/
import Derived.Test.YtclholnhkhjjaaaGreatGAM
import Derived.Shelf.Abstract
set_option linter.unusedVariables false
set_option linter.unusedSimpArgs false
set_option linter.unnecessarySimpa false
namespace Go.Proofs.Lg
open Go Go.RowKit Go.Shelf
def PredOk (P : Program) (g : Nat) (lb : Array Value) (ok : Int → Prop) (p : Int → Bool) (w : World) : Prop :=
 ∀ x, ok x → ∀ W, Below w.heap.size w W → Calls P g (#[Value.int .i64 x] ++ lb) W fun e W' => e = .returned (.bool (p x)) ∧ Below W.heap.size W W'
def idxF (p : Int → Bool) : Nat → List Int → Int
 | _, [] => -1
 | k, x :: l => if p x then k else idxF p (k + 1) l
set_option maxHeartbeats 1000000 in
theorem IndexFuncInt_any (l : List Int) (v : Value) (g : Nat) (lb : Array Value) (ok : Int → Prop) (p : Int → Bool) (w : World) (h : SlAt w v (ints l)) (hok : ∀ x ∈ l, ok x) (hn : l.length ≤ 100000000)
   (eg : ∀ args w, (callFunc g args).run Tryz.prog w = .ok (.enter g args) w) (hp : PredOk Tryz.prog g lb ok p w) :
   Calls Tryz.prog 103 #[v, .func (.func g) #[] lb] w fun e w' => e = .returned (.int .i64 (idxF p 0 l)) ∧ Below w.heap.size w w' := by
 have HSL := Lib.hid h
 obtain ⟨a, c, rfl, h1, h2, h3⟩ := h
 rw [ints_length] at *
 have HP := Lib.hid hp
 have HOK := Lib.hid hok
 clear hp hok
 go_enter Tryz.func103, Tryz.ntmps103
 go_wp2
 go_loopg [8] (l.length + 1) (fun gk i wr => ∃ k : Nat, i = .int .i64 k ∧ k ≤ l.length ∧ gk + k = l.length + 1 ∧ idxF p 0 l = idxF p k (l.drop k) ∧ Below w.heap.size w wr)
 case atStart => exact ⟨0, rfl, Nat.zero_le _, rfl, rfl, Below.refl _ _⟩
 case round =>
   obtain ⟨k, rfl, hk, hgk, hix, hB⟩ := hrel
   have HI := Lib.hid hix
   clear hix
   by_cases hlt : k < l.length
   · obtain ⟨b, off, rfl, hc⟩ := h3 (by intro e; rw [← ints_length, e] at hlt; simp at hlt)
     have hcell := below_cell hB (hc k _ (ints_get l k hlt))
     have hd := List.drop_eq_getElem_cons hlt
     have hokk := HOK.out l[k] (List.getElem_mem _)
     generalize l[k] = x at hcell hd hokk
     have HD := Lib.hid hd
     have hcall := HP.out x hokk wr hB
     clear hc h3 hd
     generalize hpx : p x = px at hcall
     have HPX := Lib.hid hpx
     have HC := Lib.hid hcall
     clear hpx hcall
     cases px with
     | true =>
       go_wp2_with fail
       refine HC.out.mono ?_
       rintro e w1 ⟨rfl, hb1⟩
       go_wp2
       go_ret
       exact ⟨ret_int (by rw [HI.out, HD.out]; simp [idxF, HPX.out]), hB.trans (hb1.mono hB.size)⟩
     | false =>
       go_wp2_with fail
       refine HC.out.mono ?_
       rintro e w1 ⟨rfl, hb1⟩
       go_wp2
       go_roundg (gk - 1)
       case measure => omega
       case rel => exact ⟨k + 1, by go_num, by omega, by omega, by rw [HI.out, HD.out]; simp [idxF, HPX.out], hB.trans (hb1.mono hB.size)⟩
   · have HK : Hid (k = l.length) := by show k = _; omega
     clear h3 hgk
     go_wp2
     go_ret
     exact ⟨ret_int (by rw [HI.out, HK.out]; simp [idxF]), hB⟩
theorem idxF_any (p : Int → Bool) : ∀ (l : List Int) (k : Nat), (0 ≤ idxF p k l) = (l.any p = true)
 | [], k => by simp [idxF]
 | x :: l, k => by
   by_cases h : p x = true
   · simp [idxF, h]
   · have := idxF_any p l (k + 1)
     simp only [idxF, h, List.any_cons, Bool.false_eq_true, if_false, Bool.false_or]
     simpa [h] using this
set_option maxHeartbeats 1000000 in
theorem ContainsFuncInt_any (l : List Int) (v : Value) (g : Nat) (lb : Array Value) (ok : Int → Prop) (p : Int → Bool) (w : World) (h : SlAt w v (ints l)) (hok : ∀ x ∈ l, ok x) (hn : l.length ≤ 100000000)
   (eg : ∀ args w, (callFunc g args).run Tryz.prog w = .ok (.enter g args) w) (hp : PredOk Tryz.prog g lb ok p w) :
   Calls Tryz.prog 70 #[v, .func (.func g) #[] lb] w fun e w' => e = .returned (.bool (l.any p)) ∧ Below w.heap.size w w' := by
 have hi := IndexFuncInt_any l v g lb ok p w h hok hn eg hp
 have hx := idxF_any p l 0
 generalize idxF p 0 l = x at hi hx
 have HI := Lib.hid hi
 have HX : Hid (decide (0 ≤ x) = l.any p) := by show decide _ = _; cases hl : l.any p <;> simp [hl] at hx ⊢ <;> omega
 clear hi hx hp hok h
 go_enter Tryz.func70, Tryz.ntmps70
 go_wp2_with (go_at_call 103; refine HI.out.mono ?_; rintro e w1 ⟨rfl, hb1⟩)
 go_ret
 exact ⟨by first | rfl | (rw [HX.out]; rfl), hb1⟩
def nats (l : List Nat) : List Int := l.map Int.ofNat
theorem nats_length (l : List Nat) : (nats l).length = l.length := by simp [nats]
theorem mem_nats {l : List Nat} {n : Nat} (h : ∀ i ∈ l, i < n) : ∀ x ∈ nats l, 0 ≤ x ∧ x < n := by
 intro x hx
 obtain ⟨i, hi, rfl⟩ := List.mem_map.1 hx
 have := h i hi
 simp; omega
theorem any_nats (l : List Nat) (p : Int → Bool) : (nats l).any p = l.any fun i => p i := by simp [nats, List.any_map]; rfl
set_option maxHeartbeats 1000000 in
theorem arranged1_any (vl ve vr vv v : Value) (n i Bl Bx : Nat) (l : List Nat) (rows : List (List Bool)) (w : World) (h : SlOf w vr (rows.map bools)) (hq : Sq n rows) (hi : i < n) (hl : ∀ j ∈ l, j < n) (hn : n ≤ 1000000) (hll : l.length ≤ 1000000)
   (hsl : SlAt w v (ints (nats l))) (hbl : w.cell? ⟨Bl, 0, none⟩ = some v) (x0 : w.cell? ⟨Bx, 0, none⟩ = some vl) (x1 : w.cell? ⟨Bx, 1, none⟩ = some ve) (x2 : w.cell? ⟨Bx, 2, none⟩ = some vr) (x3 : w.cell? ⟨Bx, 3, none⟩ = some vv) :
   Calls Tryz.prog 134 #[.int .i64 i, .pointer (some ⟨Bl, 0, none⟩), .pointer (some ⟨Bx, 0, none⟩)] w fun e w' => e = .returned (.bool (!l.any fun j => bef rows j i)) ∧ Below w.heap.size w w' := by
 have hp : ∀ o : Obj, o = .cells #[.int .i64 i] 3 → PredOk Tryz.prog 135 #[.pointer (some ⟨Bx, 0, none⟩), .pointer (some ⟨w.heap.size, 0, none⟩)] (fun x => 0 ≤ x ∧ x < n) (fun x => bef rows x.toNat i) (w.alloc o) := by
   rintro o rfl x ⟨hx0, hxn⟩ W hW
   have hbw : Below w.heap.size w W := ((Below.refl _ _).alloc (Nat.le_refl _) _).trans (hW.mono (by simp))
   have := arranged11_any vl ve vr vv n i x.toNat w.heap.size Bx rows W (h.below hbw) hq hi (by omega) hn (below_cell hW (by simp [go_sem])) (below_cell hbw x0) (below_cell hbw x1) (below_cell hbw x2) (below_cell hbw x3)
   rw [Int.toNat_of_nonneg hx0] at this
   exact this
 have hc := ContainsFuncInt_any (nats l) v 135 _ _ _ _ (hsl.below ((Below.refl _ _).alloc (Nat.le_refl _) (.cells #[.int .i64 i] 3))) (mem_nats hl) (by rw [nats_length]; omega) (enters_of Tryz.func135 (by kernel_rfl) rfl) (hp _ rfl)
 rw [any_nats] at hc
 have HC := Lib.hid hc
 obtain ⟨a, c, rfl, _⟩ := hsl
 have hltb := cell_lt hbl
 clear hc hp h hl hq x0 x1 x2 x3
 go_enter Tryz.func134, Tryz.ntmps134
 go_wp2_with fail
 refine HC.out.mono ?_
 rintro e w1 ⟨rfl, hb1⟩
 go_wp2
 go_ret
 exact ⟨rfl, ((Below.refl _ _).alloc (Nat.le_refl _) _).trans (hb1.mono (by simp))⟩
def gapN (rows : List (List Bool)) (l : List Nat) (i : Nat) : Nat := (l.filter fun j => bef rows j i).length
set_option maxHeartbeats 1000000 in
theorem gap_any (vl ve vr vv v : Value) (n i : Nat) (l : List Nat) (rows : List (List Bool)) (w : World) (h : SlOf w vr (rows.map bools)) (hq : Sq n rows) (hi : i < n) (hl : ∀ j ∈ l, j < n) (hn : n ≤ 1000000) (hll : l.length ≤ 1000000)
   (hsl : SlAt w v (ints (nats l))) (hvl : ∃ a c m, vl = .slice a m c) (hve : ∃ a c m, ve = .slice a m c) (hvv : ∃ a c m, vv = .slice a m c) :
   Calls Tryz.prog 83 #[.agg #[vl, ve, vr, vv], v, .int .i64 i] w fun e w' => e = .returned (.int .i64 (gapN rows l i)) ∧ Below w.heap.size w w' := by
 obtain ⟨al, cl, ml, rfl⟩ := hvl
 obtain ⟨ae, ce, me, rfl⟩ := hve
 obtain ⟨av, cv, mv, rfl⟩ := hvv
 obtain ⟨br, or, cr, rfl, _⟩ := h.form hq (by omega)
 obtain ⟨a, c, rfl, k1, k2, k3⟩ := hsl
 rw [ints_length, nats_length] at *
 have HS := Lib.hid h
 have HL := Lib.hid hl
 clear h hl
 go_enter Tryz.func83, Tryz.ntmps83
 go_wp2
 go_loopg [7, 12] (l.length + 1) (fun gk t i' wr => ∃ k : Nat, i' = .int .i64 k ∧ t = .int .i64 (gapN rows (l.take k) i) ∧ k ≤ l.length ∧ gk + k = l.length + 1 ∧ Below (w.heap.size + 1) (w.alloc (.cells #[.slice al ml cl, .slice ae me ce, .slice (some ⟨br, or, none⟩) n cr, .slice av mv cv] 78)) wr)
 case atStart => exact ⟨0, rfl, rfl, Nat.zero_le _, rfl, Below.refl _ _⟩
 case round =>
   obtain ⟨k, rfl, rfl, hk, hgk, hB⟩ := hrel
   have hB0 : Below w.heap.size w wr := ((Below.refl _ _).alloc (Nat.le_refl _) _).trans (hB.mono (by omega))
   have hle : gapN rows (l.take k) i ≤ 1000000 := by
     have := List.length_filter_le (fun j => bef rows j i) (l.take k)
     simp only [List.length_take] at this
     unfold gapN; omega
   by_cases hlt : k < l.length
   · obtain ⟨b, off, rfl, hc⟩ := k3 (by intro e; have := congrArg List.length e; simp [ints, nats] at this; subst this; simp at hlt)
     have hcell := below_cell hB0 (hc k (.int .i64 (l[k] : Nat)) (by simp [ints, nats, hlt]))
     have hkn := HL.out l[k] (List.getElem_mem _)
     have htk : gapN rows (l.take (k + 1)) i = gapN rows (l.take k) i + if bef rows l[k] i then 1 else 0 := by
       unfold gapN
       rw [List.take_succ_eq_append_getElem hlt, List.filter_append]
       by_cases hb : bef rows l[k] i = true <;> simp [hb]
     generalize l[k] = j at hcell hkn htk
     have hbf := before_any (.slice al ml cl) (.slice ae me ce) (.slice (some ⟨br, or, none⟩) n cr) (.slice av mv cv) n j i rows wr (HS.out.below hB0) hq hkn hi hn
     generalize bef rows j i = x at hbf htk
     have x0 : wr.cell? ⟨w.heap.size, 0, none⟩ = some (.slice al ml cl) := (hB.cell (by simp)).trans (by simp [go_sem])
     have x1 : wr.cell? ⟨w.heap.size, 1, none⟩ = some (.slice ae me ce) := (hB.cell (by simp)).trans (by simp [go_sem])
     have x2 : wr.cell? ⟨w.heap.size, 2, none⟩ = some (.slice (some ⟨br, or, none⟩) n cr) := (hB.cell (by simp)).trans (by simp [go_sem])
     have x3 : wr.cell? ⟨w.heap.size, 3, none⟩ = some (.slice av mv cv) := (hB.cell (by simp)).trans (by simp [go_sem])
     have HT := Lib.hid htk
     have HBF := Lib.hid hbf
     generalize gapN rows (l.take k) i = m at hle HT
     clear htk hbf hc k3
     cases x with
     | true =>
       go_wp2_with fail
       refine HBF.out.mono ?_
       rintro e w1 ⟨rfl, hb1⟩
       clear x0 x1 x2 x3
       go_wp2
       go_roundg (gk - 1)
       case measure => omega
       case rel => exact ⟨k + 1, by go_num, by rw [HT.out]; simp, by omega, by omega, hB.trans (hb1.mono (by have := hB.size; simp at this; omega))⟩
     | false =>
       go_wp2_with fail
       refine HBF.out.mono ?_
       rintro e w1 ⟨rfl, hb1⟩
       clear x0 x1 x2 x3
       go_wp2
       go_roundg (gk - 1)
       case measure => omega
       case rel => exact ⟨k + 1, by go_num, by rw [HT.out]; simp, by omega, by omega, hB.trans (hb1.mono (by have := hB.size; simp at this; omega))⟩
   · have HK : Hid (l.take k = l) := by show l.take k = l; rw [List.take_of_length_le (by omega)]
     clear k3 hgk
     go_wp2
     go_ret
     exact ⟨ret_int (by rw [HK.out]), hB0⟩
end Go.Proofs.Lg
