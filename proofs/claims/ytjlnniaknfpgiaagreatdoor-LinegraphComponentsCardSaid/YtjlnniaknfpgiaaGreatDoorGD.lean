/-
  Part GD of this claim's proof. Joined by merge.py from the texts of wip/tpl.
-/
import Derived.Test.YtjlnniaknfpgiaaGreatDoorC4
import Derived.ProofKit
import Derived.OpenShut
import Derived.Deep.Strs
import Derived.Lib.SmallJoins
set_option linter.unusedVariables false
set_option linter.unusedSimpArgs false
set_option linter.unnecessarySimpa false
namespace Go.Proofs.Lg
open Go Go.RowKit

/-- The graph whose two slices these are lies in memory, however great. -/
structure GrIn (w : World) (vl ve : Value) (g : Gr) : Prop where
  lines : SlN w vl 35 (g.lines.map Vtx.cells)
  edges : SlN w ve 2 (g.edges.map edgeCells)
  okl : ∀ x ∈ g.lines, x.ok
  oke : ∀ e ∈ g.edges, I64 e.1 ∧ I64 e.2
  okt : ∀ x ∈ g.lines, x.text.size ≤ 9223372036854775807

theorem GrIn.below {w w' : World} {vl ve : Value} {g : Gr} (h : GrIn w vl ve g) (hb : Below w.heap.size w w') : GrIn w' vl ve g :=
  ⟨h.lines.below hb, h.edges.below hb, h.okl, h.oke, h.okt⟩

def Gr.big (g : Gr) : Bool := (g.lines.any fun x => decide (40 < x.text.size)) || (decide (16 < g.lines.length) || decide (60 < g.edges.length))

theorem GrIn.few {w : World} {vl ve : Value} {g : Gr} (h : GrIn w vl ve g) (hb : g.big = false) : GrAt w vl ve g := by
  unfold Gr.big at hb
  simp only [Bool.or_eq_false_iff, decide_eq_false_iff_not] at hb
  exact ⟨h.lines, h.edges, h.okl, h.oke, by omega, by omega⟩

theorem Vtx.cells_text {v : Vtx} (h : v.id.length = 32) : v.cells[33]? = some (Value.string v.text) := by
  unfold Vtx.cells
  rw [List.getElem?_append_right (by simp [h])]
  simp [h]

set_option maxRecDepth 100000 in
set_option maxHeartbeats 2000000 in
theorem Great_any (vl ve : Value) (g : Gr) (w : World) (hg : GrIn w vl ve g) :
    Calls Tryz.prog 5 #[.agg #[vl, ve]] w fun e w' => e = .returned (.bool g.big) ∧ Below w.heap.size w w' := by
  obtain ⟨⟨al, cl, rfl, hl1, hl2, hl3⟩, ⟨ae, ce, rfl, he1, he2, _⟩, hokl, _, hokt⟩ := hg
  simp only [List.length_map] at *
  have HL := Lib.hid hl3
  have HOK := Lib.hid hokl
  have HOT := Lib.hid hokt
  clear hl3 hokl hokt
  have hB0 : Hid (Below w.heap.size w (w.alloc (.cells #[.slice al g.lines.length cl, .slice ae g.edges.length ce] 25))) := (Below.refl _ _).alloc (Nat.le_refl _) _
  go_enter Tryz.func5, Tryz.ntmps5
  go_wp2
  go_loop [3] (fun i => ∃ k : Nat, k ≤ g.lines.length ∧ i = .int .i64 k ∧ (g.lines.take k).any (fun x => decide (40 < x.text.size)) = false) (fun i => g.lines.length - (intOf i).toNat)
  case atStart => exact ⟨0, Nat.zero_le _, rfl, by simp⟩
  case round =>
    obtain ⟨k, hk, rfl, hany⟩ := hrel
    have HA := Lib.hid hany
    clear hany
    by_cases hlt : k < g.lines.length
    · obtain ⟨b, off, rfl, hc⟩ := HL.out (by intro e; rw [List.map_eq_nil_iff] at e; simp [e] at hlt)
      have hct : (w.alloc (.cells #[.slice (some ⟨b, off, none⟩) g.lines.length cl, .slice ae g.edges.length ce] 25)).cell? ⟨b, off + k * 35 + 33, none⟩ = some (Value.string g.lines[k].text) :=
        below_cell hB0.out (hc k g.lines[k].cells (by rw [List.getElem?_map, List.getElem?_eq_getElem hlt]; rfl) 33 _ (Vtx.cells_text (HOK.out _ (List.getElem_mem hlt)).1))
      have hts := HOT.out _ (List.getElem_mem hlt)
      have HTK : Hid (g.lines.take (k + 1) = g.lines.take k ++ [g.lines[k]]) := List.take_succ_eq_append_getElem hlt
      have HMEM : Hid (g.lines[k] ∈ g.lines) := List.getElem_mem hlt
      generalize g.lines[k] = x at *
      have hbl := cell_lt hct
      clear hc HL
      by_cases hx : 40 < x.text.size
      · have HX := Lib.hid hx
        go_wp2
        go_ret
        refine ⟨?_, hB0.out⟩
        have : g.big = true := by
          unfold Gr.big
          rw [Bool.or_eq_true]
          left
          rw [List.any_eq_true]
          exact ⟨x, HMEM.out, by simpa using HX.out⟩
        rw [this]; rfl
      · have HX := Lib.hid hx
        have hx2 : x.text.size ≤ 40 := by omega
        clear hx
        go_wp2
        go_round
        case rel => exact ⟨k + 1, by omega, by go_num, by rw [HTK.out, List.any_append, HA.out]; simpa using hx2⟩
        case measure => simp [intOf]; omega
    · have hkl : k = g.lines.length := by omega
      subst hkl
      have HA2 : Hid (g.lines.any (fun x => decide (40 < x.text.size)) = false) := by have := HA.out; rw [List.take_length] at this; exact Lib.hid this
      have HB : Hid (g.big = (decide ((16 : Int) < g.lines.length) || decide ((60 : Int) < g.edges.length))) := by
        show _ = _
        unfold Gr.big
        rw [HA2.out, Bool.false_or, Bool.eq_iff_iff]
        simp only [Bool.or_eq_true, decide_eq_true_eq]
        omega
      by_cases h16 : (16 : Int) < g.lines.length
      · go_wp2
        go_ret
        refine ⟨?_, hB0.out⟩
        rw [HB.out, decide_eq_true h16]; rfl
      · go_wp2
        go_ret
        refine ⟨?_, hB0.out⟩
        rw [HB.out, (decide_eq_false (by omega) : decide ((16 : Int) < g.lines.length) = false)]; rfl
end Go.Proofs.Lg

namespace Go.Proofs.Lg
open Go Go.RowKit Go.ChangeShapes Go.WideShapes Go.ChangeAt Go.Joins Go.Deep

instance : Inhabited Vtx := ⟨⟨[], 0, ByteArray.empty, false⟩⟩

theorem map_exists {α β : Type} {f : α → β} {p : α → Prop} : ∀ (cs : List β), (∀ v ∈ cs, ∃ n, v = f n ∧ p n) → ∃ d : List α, cs = d.map f ∧ ∀ x ∈ d, p x
  | [], _ => ⟨[], rfl, by simp⟩
  | c :: cs, h => by
    obtain ⟨n, rfl, hn⟩ := h c (by simp)
    obtain ⟨d, rfl, hd⟩ := map_exists cs fun v hv => h v (List.mem_cons_of_mem _ hv)
    exact ⟨n :: d, rfl, by simpa using ⟨hn, hd⟩⟩

theorem cellsOf_Id : Tryz.prog.cellsOf 42 = 33 := by kernel_rfl
theorem cellsOf_Digest : Tryz.prog.cellsOf 40 = 32 := by kernel_rfl
theorem cellsOf_u8 : Tryz.prog.cellsOf 5 = 1 := by kernel_rfl
theorem cellsOf_int : Tryz.prog.cellsOf 3 = 1 := by kernel_rfl
theorem cellsOf_string : Tryz.prog.cellsOf 9 = 1 := by kernel_rfl
theorem cellsOf_bool : Tryz.prog.cellsOf 4 = 1 := by kernel_rfl
theorem cellsOf_Vertex : Tryz.prog.cellsOf 44 = 35 := by kernel_rfl
theorem cellsOf_Edge : Tryz.prog.cellsOf 64 = 2 := by kernel_rfl

section
variable {H : Type} {enc : TypeId × Value → H} {w : World} {base : Nat} {spare : Nat → Bool} {held : Bool}

theorem wf_i64 {n : Int} (h : (Lit.int .i64 n).wf = true) : I64 n := bounds_i64 h
theorem wf_u8 {n : Int} (h : (Lit.int .u8 n).wf = true) : 0 ≤ n ∧ n < 256 := by have := bounds_u8 h; omega

theorem read_digest {fuel : Nat} {cs : List Value} {x : DataW H × List MemPlace} (h : DataW.trod enc Tryz.prog w base spare held fuel 40 cs = some x) : ∃ d : List Int, cs = d.map (Value.int .u8) ∧ d.length = 32 ∧ Bytes d := by
  obtain ⟨xs, m, _, _, hl, hxl, hi⟩ := DataW.trod_array Tryz.underlying40 h
  rw [cellsOf_Digest] at hl
  rw [cellsOf_u8] at hi
  obtain ⟨d, rfl, hd⟩ := map_exists (f := Value.int .u8) (p := fun n => 0 ≤ n ∧ n < 256) cs (fun v hv => by
    obtain ⟨i, hil, rfl⟩ := List.mem_iff_getElem.1 hv
    have h1 := hi i (by omega)
    rw [List.getElem?_eq_getElem (by omega), Nat.mul_one] at h1
    obtain ⟨n, hn, _, hw⟩ := DataW.trod_int Tryz.underlying5 h1
    have hn2 := congrArg (fun l => l[0]?) hn
    simp [hil] at hn2
    exact ⟨n, hn2, wf_u8 hw⟩)
  exact ⟨d, rfl, by simpa using hl, hd⟩

theorem read_id {fuel : Nat} {cs : List Value} {x : DataW H × List MemPlace} (h : DataW.trod enc Tryz.prog w base spare held fuel 42 cs = some x) : ∃ (d : List Int) (n : Int), cs = d.map (Value.int .u8) ++ [Value.int .i64 n] ∧ d.length = 32 ∧ Bytes d ∧ I64 n := by
  obtain ⟨y0, y1, m, _, hl, h0, h1⟩ := trod_struct2 Tryz.underlying42 h
  dsimp only at h0 h1
  rw [cellsOf_Id] at hl
  rw [cellsOf_Digest] at h0
  rw [cellsOf_int] at h1
  obtain ⟨d, hd, hdl, hdb⟩ := read_digest h0
  obtain ⟨n, hn, _, hw⟩ := DataW.trod_int Tryz.underlying3 h1
  refine ⟨d, n, ?_, hdl, hdb, wf_i64 hw⟩
  rw [← hd, ← hn, List.drop_zero]
  rw [show cs.take 32 ++ (cs.drop 32).take 1 = cs.take 33 from (List.take_add (i := 32) (j := 1)).symm]
  exact (List.take_of_length_le (by omega)).symm

theorem read_vertex {fuel : Nat} {cs : List Value} {x : DataW H × List MemPlace} (h : DataW.trod enc Tryz.prog w base spare held fuel 44 cs = some x) : ∃ v : Vtx, cs = v.cells ∧ v.ok ∧ v.text.size ≤ maxLen := by
  obtain ⟨y0, y1, y2, m, _, hl, h0, h1, h2⟩ := trod_struct3 Tryz.underlying44 h
  dsimp only at h0 h1 h2
  rw [cellsOf_Vertex] at hl
  rw [cellsOf_Id] at h0
  rw [cellsOf_string] at h1
  rw [cellsOf_bool] at h2
  obtain ⟨d, n, hd, hdl, hdb, hn⟩ := read_id h0
  obtain ⟨s, hs, _, hsl⟩ := DataW.trod_string Tryz.underlying9 h1
  obtain ⟨b, hb, _⟩ := DataW.trod_bool Tryz.underlying4 h2
  refine ⟨⟨d, n, s, b⟩, ?_, ⟨hdl, hdb, hn.1, hn.2⟩, hsl⟩
  unfold Vtx.cells
  dsimp only
  rw [show d.map (Value.int .u8) ++ [Value.int .i64 n, Value.string s, Value.bool b] = (d.map (Value.int .u8) ++ [Value.int .i64 n]) ++ [Value.string s] ++ [Value.bool b] by simp, ← hd, ← hs, ← hb, List.drop_zero]
  rw [show cs.take 33 ++ (cs.drop 33).take 1 = cs.take 34 from (List.take_add (i := 33) (j := 1)).symm, show cs.take 34 ++ (cs.drop 34).take 1 = cs.take 35 from (List.take_add (i := 34) (j := 1)).symm]
  exact (List.take_of_length_le (by omega)).symm

theorem read_edge {fuel : Nat} {cs : List Value} {x : DataW H × List MemPlace} (h : DataW.trod enc Tryz.prog w base spare held fuel 64 cs = some x) : ∃ e : Int × Int, cs = edgeCells e ∧ I64 e.1 ∧ I64 e.2 := by
  obtain ⟨y0, y1, m, _, hl, h0, h1⟩ := trod_struct2 Tryz.underlying64 h
  dsimp only at h0 h1
  rw [cellsOf_Edge] at hl
  rw [cellsOf_int] at h0 h1
  obtain ⟨a, ha, _, hwa⟩ := DataW.trod_int Tryz.underlying3 h0
  obtain ⟨b, hb, _, hwb⟩ := DataW.trod_int Tryz.underlying3 h1
  refine ⟨(a, b), ?_, wf_i64 hwa, wf_i64 hwb⟩
  unfold edgeCells
  rw [show [Value.int .i64 (a, b).1, Value.int .i64 (a, b).2] = [Value.int .i64 a] ++ [Value.int .i64 b] from rfl, ← ha, ← hb, List.drop_zero, show cs.take 1 ++ (cs.drop 1).take 1 = cs.take 2 from (List.take_add (i := 1) (j := 1)).symm]
  exact (List.take_of_length_le (by omega)).symm

/-- A slice of structs, each of which reads. -/
theorem read_slice {α : Type} [Inhabited α] {t e : TypeId} {size fuel : Nat} {cs : List Value} {x : DataW H × List MemPlace} (ht : Tryz.prog.underlying t = some (.slice e)) (hC : Tryz.prog.cellsOf e = size) (hs : 0 < size) (enc' : α → List Value) (ok : α → Prop)
    (hel : ∀ (m : Nat) (c : List Value) (y : DataW H × List MemPlace), DataW.trod enc Tryz.prog w base spare held m e c = some y → ∃ v : α, c = enc' v ∧ ok v)
    (h : DataW.trod enc Tryz.prog w base spare held fuel t cs = some x) : ∃ (v : Value) (xs : List α), cs = [v] ∧ SlN w v size (xs.map enc') ∧ ∀ a ∈ xs, ok a := by
  rcases open_slice ht h with ⟨rfl, _⟩ | ⟨a, len, cap, m, n, D, Pl, rfl, hb, hl, hm, hmm, _, hi⟩
  · exact ⟨_, [], rfl, ⟨none, 0, rfl, Nat.le_refl _, by omega, fun h => absurd rfl h⟩, by simp⟩
  · have hlm : len ≤ m := by rw [hmm]; split <;> omega
    rw [hC] at hi
    obtain ⟨f, hf⟩ := choose_lt (n := len) (p := fun i (v : α) => ok v ∧ w.cells? base (a.add (i * size)) size = some (enc' v)) fun i hil => by
      obtain ⟨c, hc, ht2⟩ := hi i (by omega)
      obtain ⟨v, rfl, hv⟩ := hel n c _ ht2
      exact ⟨v, hv, hc⟩
    refine ⟨_, (List.range len).map f, rfl, ⟨some a, cap, by simp, by simpa using hl, by unfold maxLen at hm; omega, fun hne => ?_⟩, fun y hy => ?_⟩
    · have hpos : 0 < len := by
        rcases Nat.eq_zero_or_pos len with h0 | h0
        · subst h0; exact absurd rfl hne
        · exact h0
      have hsp : a.spot = none := by
        obtain ⟨_, h1, h2⟩ := World.cells?_some (hf 0 hpos).2
        have h3 := h2 0 hs
        rw [List.getElem?_eq_getElem (by omega)] at h3
        have := World.cell?_spot h3
        simpa [Addr.add] using this
      obtain ⟨b, off, sp⟩ := a
      simp only at hsp
      subst hsp
      refine ⟨b, off, rfl, fun i u hu => ?_⟩
      rw [List.map_map, List.getElem?_map] at hu
      obtain ⟨i', hi', rfl⟩ := Option.map_eq_some_iff.1 hu
      obtain ⟨hil, rfl⟩ := List.getElem?_eq_some_iff.1 hi'
      simp only [List.length_range] at hil
      simp only [List.getElem_range, Function.comp]
      obtain ⟨_, h1, h2⟩ := World.cells?_some (hf i hil).2
      intro j v hv
      have hj : j < size := by rw [← h1]; exact (List.getElem?_eq_some_iff.1 hv).1
      have := h2 j hj
      rw [hv] at this
      rw [← this]
      have e : ((⟨b, off, none⟩ : Addr).add (i * size)).add j = ⟨b, off + i * size + j, none⟩ := by
        rw [Addr.add_mid, Addr.add_mid]
      rw [e]
    · obtain ⟨i, hi, rfl⟩ := List.mem_map.1 hy
      exact (hf i (List.mem_range.1 hi)).1

set_option maxRecDepth 100000 in
theorem graph_open {r : Reach} {b0 : Nat} {v : Value} {d : DataW H} {p : List MemPlace} (hv : Value.okWide Tryz.prog w r b0 25 v) (h : DataW.Trod enc Tryz.prog w base spare held 25 v d p) :
    ∃ (vl ve : Value) (g : Gr), v = .agg #[vl, ve] ∧ GrIn w vl ve g := by
  obtain ⟨c0, c1, y0, y1, n, rfl, _, _, h0, h1⟩ := open_agg2 Tryz.underlying25 (by kernel_rfl) (by kernel_rfl) hv h
  dsimp only at h0 h1
  obtain ⟨vl, lines, hl1, hl2, hl3⟩ := read_slice (α := Vtx) Tryz.underlying22 cellsOf_Vertex (by decide) Vtx.cells (fun v => v.ok ∧ v.text.size ≤ maxLen) (fun m c y hy => read_vertex hy) h0
  obtain ⟨ve, edges, he1, he2, he3⟩ := read_slice (α := Int × Int) Tryz.underlying23 cellsOf_Edge (by decide) edgeCells (fun e => I64 e.1 ∧ I64 e.2) (fun m c y hy => read_edge hy) h1
  obtain rfl := (List.singleton_inj.1 hl1)
  obtain rfl := (List.singleton_inj.1 he1)
  exact ⟨c0, c1, ⟨lines, edges⟩, rfl, hl2, he2, fun x hx => (hl3 x hx).1, he3, fun x hx => by have := (hl3 x hx).2; unfold maxLen at this; omega⟩
end
end Go.Proofs.Lg

namespace Go.Proofs.Lg
open Go Go.RowKit

/-! ### What a valid graph gives -/

def okEdges (n : Nat) (l : List (Int × Int)) : Prop := ∀ e ∈ l, (-1 ≤ e.1 ∧ e.1 < n) ∧ (-1 ≤ e.2 ∧ e.2 < n) ∧ e.1 ≠ e.2

theorem edgesErr_ok (n : Nat) : ∀ (l : List (Int × Int)) (p : Option (Int × Int)), edgesErr n p l = 0 → okEdges n l
  | [], _, _ => by simp [okEdges]
  | e :: l, p, h => by
    have key : (outB n e.1 || outB n e.2) = false ∧ e.1 ≠ e.2 ∧ edgesErr n (some e) l = 0 := by
      cases p with
      | none =>
        simp only [edgesErr] at h
        by_cases h1 : (outB n e.1 || outB n e.2) = true
        · simp [h1] at h
        · by_cases h2 : e.1 = e.2
          · rw [if_neg h1, if_pos h2] at h; omega
          · rw [if_neg h1, if_neg h2] at h; exact ⟨by simpa using h1, h2, h⟩
      | some p =>
        simp only [edgesErr] at h
        by_cases h1 : (outB n e.1 || outB n e.2) = true
        · simp [h1] at h
        · by_cases h2 : e.1 = e.2
          · rw [if_neg h1, if_pos h2] at h; omega
          · by_cases h3 : 0 ≤ cmpEdge p e
            · simp [h1, h2, h3] at h
            · rw [if_neg h1, if_neg h2, if_neg h3] at h; exact ⟨by simpa using h1, h2, h⟩
    obtain ⟨h1, h2, h3⟩ := key
    have ih := edgesErr_ok n l (some e) h3
    intro x hx
    rcases List.mem_cons.1 hx with rfl | hx
    · simp only [outB, Bool.or_eq_false_iff, decide_eq_false_iff_not] at h1
      exact ⟨by omega, by omega, h2⟩
    · exact ih x hx

theorem Gr.check_ok {g : Gr} (h : g.check = 0) : linesOk g.lines = true ∧ okEdges g.lines.length g.edges := by
  unfold Gr.check at h
  by_cases hl : linesOk g.lines = true
  · simp only [hl, if_true] at h
    exact ⟨hl, edgesErr_ok _ _ _ h⟩
  · simp [hl] at h

theorem Gr.followers_length (g : Gr) : g.followers.length = g.lines.length := by simp [Gr.followers, fol_length]

theorem fol_valid (n : Nat) (l : List (Int × Int)) (hl : okEdges n l) : ∀ rows : List (List Int), (∀ r ∈ rows, ∀ x ∈ r, 0 ≤ x ∧ x < n) → ∀ r ∈ l.foldl folStep rows, ∀ x ∈ r, 0 ≤ x ∧ x < (n : Int) := by
  induction l with
  | nil => intro rows h; simpa using h
  | cons e l ih =>
    intro rows h
    refine ih (fun x hx => hl x (by simp [hx])) (folStep rows e) fun r hr x hx => ?_
    have he := hl e (by simp)
    unfold folStep at hr
    split at hr
    · obtain ⟨i, hi, rfl⟩ := List.mem_iff_getElem.1 hr
      rw [List.getElem_modify] at hx
      simp only [List.length_modify] at hi
      split at hx
      · rcases List.mem_append.1 hx with hx | hx
        · exact h _ (List.getElem_mem _) x hx
        · simp at hx; subst hx; omega
      · exact h _ (List.getElem_mem _) x hx
    · exact h r hr x hx

theorem Gr.followers_valid {g : Gr} (h : okEdges g.lines.length g.edges) : ∀ r ∈ g.followers, ∀ x ∈ r, 0 ≤ x ∧ x < (g.followers.length : Int) := by
  rw [g.followers_length]
  exact fol_valid _ _ h _ (by simp)

def rowSum : List (List Int) → Nat
  | [] => 0
  | r :: rows => r.length + rowSum rows

theorem rowSum_modify (rows : List (List Int)) (x : Int) : ∀ i, rowSum (rows.modify i (· ++ [x])) ≤ rowSum rows + 1 := by
  induction rows with
  | nil => intro i; simp [rowSum]
  | cons r rows ih =>
    intro i
    cases i with
    | zero => simp [rowSum]; omega
    | succ i => have := ih i; simp [rowSum]; omega

theorem rowSum_fol (l : List (Int × Int)) : ∀ rows : List (List Int), rowSum (l.foldl folStep rows) ≤ rowSum rows + l.length := by
  induction l with
  | nil => intro rows; simp
  | cons e l ih =>
    intro rows
    have h1 := ih (folStep rows e)
    have h2 : rowSum (folStep rows e) ≤ rowSum rows + 1 := by
      unfold folStep
      split
      · exact rowSum_modify _ _ _
      · omega
    simp; omega

theorem rowSum_nil (n : Nat) : rowSum (List.replicate n []) = 0 := by
  induction n with
  | zero => rfl
  | succ n ih => simp [List.replicate_succ, rowSum, ih]

theorem pot_false : ∀ rows : List (List Int), pot rows (List.replicate rows.length false) = rowSum rows + rows.length
  | [] => rfl
  | r :: rows => by simp [List.replicate_succ, pot, rowSum, pot_false rows]; omega

theorem row_le_sum : ∀ (rows : List (List Int)) (i : Nat), (rows.getD i []).length ≤ rowSum rows
  | [], i => by simp
  | r :: rows, 0 => by simp [rowSum]
  | r :: rows, i + 1 => by have := row_le_sum rows i; simp only [List.getD_cons_succ, rowSum]; omega

theorem Gr.pot_le (g : Gr) (hl : g.lines.length ≤ 1000000) (he : g.edges.length ≤ 1000000) (i : Nat) : pot g.followers (List.replicate g.followers.length false) + (g.followers.getD i []).length ≤ 5000000 := by
  have h1 := rowSum_fol g.edges (List.replicate g.lines.length [])
  rw [rowSum_nil] at h1
  have h2 := row_le_sum g.followers i
  have h3 := g.followers_length
  rw [pot_false]
  unfold Gr.followers at *
  omega

/-- Which lines reach which ones. -/
def Gr.reach (g : Gr) : List (List Bool) := if g.check = 0 then (List.range g.lines.length).map (fromRow g.followers) else []

theorem info_bools : (Tryz.prog.info? 38).map (fun i => (i.zero, i.size, i.bytes)) = some (some (.slice none 0 0), 1, 24) := by kernel_rfl

set_option maxHeartbeats 4000000 in
set_option maxRecDepth 100000 in
theorem Reaches_any (vl ve : Value) (g : Gr) (w : World) (hg : GrAt w vl ve g) :
    Calls Tryz.prog 10 #[.agg #[vl, ve]] w fun e w' => ∃ v, e = .returned v ∧ SlOfP (fun b => w.heap.size ≤ b) w' v (g.reach.map bools) ∧ Below w.heap.size w w' := by
  by_cases hck : g.check = 0
  · have h1 : (g.check == 0) = true := by simp [hck]
    have h2 : (g.check != 0) = false := by simp [hck]
    obtain ⟨hlo, hok⟩ := Gr.check_ok hck
    have HCK := Lib.hid hck
    have HOK := Lib.hid hok
    clear hck hok hlo
    go_enter Tryz.func10, Tryz.ntmps10
    go_wp2_with fail
    refine (Check_any vl ve g _ (hg.below ((Below.refl _ _).alloc (Nat.le_refl _) _))).mono ?_
    rintro e w1 ⟨rfl, hb1⟩
    have hx0 : w1.cell? ⟨w.heap.size, 0, none⟩ = some vl := below_cell hb1 (by simp [go_sem])
    have hx1 : w1.cell? ⟨w.heap.size, 1, none⟩ = some ve := below_cell hb1 (by simp [go_sem])
    have hbw1 : Below w.heap.size w w1 := ((Below.refl _ _).alloc (Nat.le_refl _) _).trans (hb1.mono (by simp))
    clear hb1
    go_wp2_with fail
    refine (followers_any vl ve g _ (hg.below hbw1) (fun e he => (HOK.out e he).1.2)).mono ?_
    rintro e w2 ⟨v2, rfl, hs2, hb2⟩
    have hn := g.followers_length
    have hbw2 := hbw1.trans (hb2.mono hbw1.size)
    obtain ⟨vs2, hv2⟩ : ∃ vs2, SlAt w2 v2 vs2 ∧ vs2.length = g.lines.length := by
      obtain ⟨vs, h1, h2, _⟩ := hs2
      exact ⟨vs, h1, by simpa [hn] using h2⟩
    obtain ⟨⟨a2, c2, rfl, hc1, hc2, _⟩, hl2⟩ := hv2
    rw [hl2] at hs2 hc1 ⊢
    have hmk := run_make_row' (P := Tryz.prog) 31 38 (.slice none 0 0) 24 Tryz.underlying31 info_bools rfl .i64 .i64 g.lines.length (by have := hg.few; omega) (by have := hg.few; omega)
    obtain ⟨C0, hC0⟩ : ∃ C0, C0 = Go.madeCells #[Value.slice none 0 0] g.lines.length := ⟨_, rfl⟩
    rw [← hC0] at hmk
    have HC0 := Lib.hid hC0
    have HS2 := Lib.hid hs2
    have HG := Lib.hid hg
    have HN := Lib.hid hn
    clear hC0 hs2 hg hn hl2 hb2 hx0 hx1
    go_wp2
    have HST : Hid ((w2.alloc (.cells C0 38)).heap[w2.heap.size]? = some (.cells C0 38 (0, 0))) := heap_alloc_new w2 _
    go_loopg [16, 5] (g.lines.length + 1) (fun gk i _ wr => ∃ (k : Nat) (vs : List Value), i = .int .i64 k ∧ k ≤ g.lines.length ∧ gk + k = g.lines.length + 1 ∧ vs.length = g.lines.length ∧ wr.heap[w2.heap.size]? = some (.cells vs.toArray 38 (0, 0)) ∧
      (∀ j, j < k → ∃ u, vs[j]? = some u ∧ SlAt wr u (bools (fromRow g.followers j)) ∧ ∀ b, u.ownBlock = some b → w2.heap.size < b) ∧ Below w2.heap.size w2 wr)
    case atStart =>
      exact ⟨0, List.replicate g.lines.length (.slice none 0 0), rfl, Nat.zero_le _, by omega, by simp, by rw [HST.out, HC0.out, Go.madeCells_one], fun j hj => by omega, (Below.refl _ _).alloc (Nat.le_refl _) _⟩
    case round =>
      obtain ⟨k, vs, rfl, hk, hgk, hvl, hh, hrows, hB⟩ := hrel
      have HH := Lib.hid hh
      have HR := Lib.hid hrows
      have HV := Lib.hid hvl
      have hBw := hbw2.trans (hB.mono hbw2.size)
      clear hh hrows hvl HST
      by_cases hlt : k < g.lines.length
      · go_wp2_with fail
        refine (from_any g.followers _ k _ (HS2.out.below hB) (by rw [HN.out]; exact hlt) (by rw [HN.out]; exact HG.out.few) (Gr.pot_le g HG.out.few HG.out.fewe k) (Gr.followers_valid HOK.out)).mono ?_
        rintro e w3 ⟨v3, rfl, hs3, ho3, hb3⟩
        obtain ⟨a3, c3, hv3⟩ : ∃ a c, v3 = .slice a (bools (fromRow g.followers k)).length c := by obtain ⟨a, c, h, _⟩ := hs3; exact ⟨a, c, h⟩
        subst hv3
        have hh3 := heap_below hb3 HH.out
        have hc3 : w3.cell? ⟨w2.heap.size, k, none⟩ = some (vs[k]'(by rw [HV.out]; exact hlt)) := by rw [cell_of_heap hh3]; simp
        have hf3 : w3.frozen? ⟨w2.heap.size, k, none⟩ = false := frozen_of_heap hh3
        have HH3 := Lib.hid hh3
        have HS3 := Lib.hid hs3
        have HO3 := Lib.hid ho3
        have HL2 : Hid (w2.heap.size < wr.heap.size) := (Array.getElem?_eq_some_iff.1 HH.out).1
        have hlt2 := HL2.out
        generalize vs[k]'(by rw [HV.out]; exact hlt) = old at hc3
        clear hh3 hs3 ho3
        go_wp2
        go_roundg (gk - 1)
        case measure => omega
        case rel =>
          have hw3 : w2.heap.size < w3.heap.size := (Array.getElem?_eq_some_iff.1 HH3.out).1
          refine ⟨k + 1, vs.set k (.slice a3 (bools (fromRow g.followers k)).length c3), by go_num, by omega, by omega, by simp [HV.out], by rw [heap_setCell_same HH3.out]; simp, fun j hj => ?_, ?_⟩
          · by_cases hjk : j = k
            · subst hjk
              exact ⟨_, by rw [List.getElem?_set_self (by rw [HV.out]; exact hlt)], HS3.out.setCell (fun e => by have := HO3.out _ e; have := HL2.out; simp at *; omega) _, fun b e => by have := HO3.out _ e; have := HL2.out; omega⟩
            · obtain ⟨u, hu1, hu2, hu3⟩ := HR.out j (by omega)
              exact ⟨u, by rw [List.getElem?_set_ne (by omega)]; exact hu1, (hu2.below hb3).setCell (fun e => absurd (hu3 w2.heap.size e) (Nat.lt_irrefl _)) _, hu3⟩
          · exact (hB.trans (hb3.mono hB.size)).setCell (Nat.le_refl _) _
      · have HK : Hid (k = g.lines.length) := by show k = _; omega
        clear hgk
        go_wp2
        go_ret
        refine ⟨.slice (some ⟨w2.heap.size, 0, none⟩) g.lines.length g.lines.length, rfl, ?_, hBw⟩
        unfold Gr.reach
        rw [if_pos HCK.out]
        have hfew := HG.out.few
        have hwlt := hbw2.size
        refine ⟨vs, (SlAt.mk HV.out (Nat.le_refl _) (by omega) fun j u hu => ?_).slAtP_of (fun b e => by have : w2.heap.size = b := Option.some.inj e; omega), by simp [HV.out], fun j u r hu hr => ?_⟩
        · rw [Nat.zero_add, cell_of_heap HH.out]; simpa using hu
        · have hj : j < g.lines.length := by have := (List.getElem?_eq_some_iff.1 hu).1; rw [HV.out] at this; exact this
          obtain ⟨u', h1, h2, h3⟩ := HR.out j (by rw [HK.out]; exact hj)
          rw [hu] at h1
          obtain rfl := Option.some.inj h1
          have : r = bools (fromRow g.followers j) := by
            rw [List.getElem?_map, List.getElem?_map, List.getElem?_range hj] at hr
            exact (Option.some.inj hr).symm
          rw [this]; exact h2.slAtP_of (fun b e => by have := h3 b e; omega)
  · have h1 : (g.check == 0) = false := by simp [hck]
    have h2 : (g.check != 0) = true := by simp [hck]
    have HCK := Lib.hid hck
    clear hck
    go_enter Tryz.func10, Tryz.ntmps10
    go_wp2_with (go_at_call 7; refine (Check_any vl ve g _ (hg.below ((Below.refl _ _).alloc (Nat.le_refl _) _))).mono ?_; rintro e w1 ⟨rfl, hb1⟩)
    go_ret
    refine ⟨_, rfl, ?_, ((Below.refl _ _).alloc (Nat.le_refl _) _).trans (hb1.mono (by simp))⟩
    unfold Gr.reach
    rw [if_neg HCK.out]
    exact ⟨[], (SlAt.nil _).slAtP_of (fun b e => by cases e), rfl, by simp⟩

/-- Whether a line is before another one. -/
def Gr.before (g : Gr) (i j : Nat) : Bool := (fromRow g.followers i).getD j false && !(fromRow g.followers j).getD i false

theorem fromF_length (next : List (List Int)) : ∀ (f : Nat) (todo : List Int) (out : List Bool), (fromF next f todo out).length = out.length
  | 0, _, _ => rfl
  | f + 1, todo, out => by
    simp only [fromF]
    split
    · rfl
    · split <;> simp [fromF_length next f]
theorem fromRow_length (next : List (List Int)) (i : Nat) : (fromRow next i).length = next.length := by simp [fromRow, fromF_length]

end Go.Proofs.Lg

namespace Go.Proofs.Lg
open Go Go.RowKit

set_option maxHeartbeats 4000000 in
set_option maxRecDepth 100000 in
/-- linegraph.Before at a valid graph and valid lines. -/
theorem Before_ok (vl ve : Value) (g : Gr) (i j : Nat) (w : World) (hg : GrAt w vl ve g) (hck : g.check = 0) (hi : i < g.lines.length) (hj : j < g.lines.length) :
    Calls Tryz.prog 12 #[.agg #[vl, ve], .int .i64 i, .int .i64 j] w fun e w' => e = .returned (.bool (g.before i j)) ∧ Below w.heap.size w w' := by
  have h1 : (g.check == 0) = true := by simp [hck]
  have h2 : (g.check != 0) = false := by simp [hck]
  obtain ⟨hlo, hok⟩ := Gr.check_ok hck
  have HCK := Lib.hid hck
  have HOK := Lib.hid hok
  have HG := Lib.hid hg
  have hfew := hg.few
  obtain ⟨al, cl, hvl⟩ : ∃ a c, vl = .slice a g.lines.length c := by obtain ⟨a, c, h, _⟩ := hg.lines; exact ⟨a, c, by simpa using h⟩
  subst hvl
  clear hck hok hlo hg
  have d1 : decide ((i : Int) < 0) = false := by simp
  have d2 : decide ((j : Int) < 0) = false := by simp
  have d3 : decide ((g.lines.length : Int) ≤ (i : Int)) = false := by simp; omega
  have d4 : decide ((g.lines.length : Int) ≤ (j : Int)) = false := by simp; omega
  have d5 : decide (g.lines.length ≤ i) = false := by simp; omega
  have d6 : decide (g.lines.length ≤ j) = false := by simp; omega
  go_enter Tryz.func12, Tryz.ntmps12
  go_wp2_with fail
  refine (Check_any _ ve g _ (HG.out.below ((Below.refl _ _).alloc (Nat.le_refl _) _))).mono ?_
  rintro e w1 ⟨rfl, hb1⟩
  have hx0 : w1.cell? ⟨w.heap.size, 0, none⟩ = some (.slice al g.lines.length cl) := below_cell hb1 (by simp [go_sem])
  have hx1 : w1.cell? ⟨w.heap.size, 1, none⟩ = some ve := below_cell hb1 (by simp [go_sem])
  have hbw1 : Below w.heap.size w w1 := ((Below.refl _ _).alloc (Nat.le_refl _) _).trans (hb1.mono (by simp))
  clear hb1
  go_wp2_with fail
  refine (followers_any _ ve g _ (HG.out.below hbw1) (fun e he => (HOK.out e he).1.2)).mono ?_
  rintro e w2 ⟨v2, rfl, hs2, hb2⟩
  have hn := g.followers_length
  have hbw2 := hbw1.trans (hb2.mono hbw1.size)
  have HS2 := Lib.hid hs2
  have HN := Lib.hid hn
  clear hs2 hn hb2 hx0 hx1
  go_wp2_with fail
  refine (from_any g.followers _ i _ HS2.out (by rw [HN.out]; exact hi) (by rw [HN.out]; exact HG.out.few) (Gr.pot_le g HG.out.few HG.out.fewe i) (Gr.followers_valid HOK.out)).mono ?_
  rintro e w3 ⟨v3, rfl, ⟨a3, c3, rfl, k1, k2, k3⟩, ho3, hb3⟩
  have hlen : (bools (fromRow g.followers i)).length = g.lines.length := by simp [bools, fromRow_length, HN.out]
  rw [hlen] at k1 ⊢
  obtain ⟨b3, o3, rfl, hc3⟩ := k3 (by intro e; rw [e] at hlen; simp at hlen; omega)
  have hcj := hc3 j (.bool ((fromRow g.followers i).getD j false)) (by simp [bools]; rw [List.getElem?_eq_getElem (by rw [fromRow_length, HN.out]; exact hj)]; rfl)
  have HBF : Hid (g.before i j = ((fromRow g.followers i).getD j false && !(fromRow g.followers j).getD i false)) := rfl
  generalize (fromRow g.followers i).getD j false = bj at hcj HBF
  have hbw3 := hbw2.trans (hb3.mono hbw2.size)
  have HS3 := Lib.hid (HS2.out.below hb3)
  clear k3 hc3 hlen ho3 hb3
  cases bj with
  | false =>
    go_wp2
    go_ret
    exact ⟨by rw [HBF.out]; rfl, hbw3⟩
  | true =>
    go_wp2_with fail
    refine (from_any g.followers _ j _ HS3.out (by rw [HN.out]; exact hj) (by rw [HN.out]; exact HG.out.few) (Gr.pot_le g HG.out.few HG.out.fewe j) (Gr.followers_valid HOK.out)).mono ?_
    rintro e w4 ⟨v4, rfl, ⟨a4, c4, rfl, k1, k2, k3⟩, ho4, hb4⟩
    have hlen : (bools (fromRow g.followers j)).length = g.lines.length := by simp [bools, fromRow_length, HN.out]
    rw [hlen] at k1 ⊢
    obtain ⟨b4, o4, rfl, hc4⟩ := k3 (by intro e; rw [e] at hlen; simp at hlen; omega)
    have hci := hc4 i (.bool ((fromRow g.followers j).getD i false)) (by simp [bools]; rw [List.getElem?_eq_getElem (by rw [fromRow_length, HN.out]; exact hi)]; rfl)
    generalize (fromRow g.followers j).getD i false = bi at hci HBF
    have hbw4 := hbw3.trans (hb4.mono hbw3.size)
    clear k3 hc4 hlen ho4 hb4
    go_wp2
    go_ret
    exact ⟨by rw [HBF.out]; rfl, hbw4⟩
end Go.Proofs.Lg

namespace Go.Proofs.Lg

def rel (rows : List (List Bool)) (i j : Nat) : Bool := (rows.getD i []).getD j false
/-- Line i is before line j. -/
def bef (rows : List (List Bool)) (i j : Nat) : Bool := rel rows i j && !rel rows j i
def relat (rows : List (List Bool)) (i j : Nat) : Bool := bef rows i j || bef rows j i
/-- A square of n rows. -/
def Sq (n : Nat) (rows : List (List Bool)) : Prop := rows.length = n ∧ ∀ r ∈ rows, r.length = n

def TransR (n : Nat) (rows : List (List Bool)) : Prop := ∀ i j k, i < n → j < n → k < n → rel rows i j = true → rel rows j k = true → rel rows i k = true
theorem getD_set_true (out : List Bool) (k j : Nat) (hk : k < out.length) : (out.set k true).getD j false = (decide (k = j) || out.getD j false) := by
  by_cases h : k = j
  · subst h; simp [List.getD_eq_getElem?_getD, hk]
  · simp [List.getD_eq_getElem?_getD, List.getElem?_set_ne h, h]

theorem fromF_spec (next : List (List Int)) (n : Nat) (hn : next.length = n) (hv : ∀ r ∈ next, ∀ x ∈ r, 0 ≤ x ∧ x < (n : Int)) :
    ∀ (f : Nat) (todo : List Int) (out : List Bool), out.length = n → (∀ x ∈ todo, 0 ≤ x ∧ x < (n : Int)) → pot next out + todo.length < f →
      (∀ j, out.getD j false = true → ∀ x ∈ next.getD j [], out.getD x.toNat false = true ∨ x ∈ todo) →
      (∀ j, out.getD j false = true → (fromF next f todo out).getD j false = true) ∧ (∀ x ∈ todo, (fromF next f todo out).getD x.toNat false = true) ∧
      (∀ j, (fromF next f todo out).getD j false = true → ∀ x ∈ next.getD j [], (fromF next f todo out).getD x.toNat false = true) ∧
      (∀ T : Nat → Prop, (∀ x ∈ todo, T x.toNat) → (∀ j, out.getD j false = true → T j) → (∀ j, T j → ∀ x ∈ next.getD j [], T x.toNat) → ∀ j, (fromF next f todo out).getD j false = true → T j)
  | 0, todo, out, _, _, hf, _ => absurd hf (Nat.not_lt_zero _)
  | f + 1, todo, out, ho, ht, hf, hc => by
    unfold fromF
    cases hl : todo.getLast? with
    | none =>
      have : todo = [] := List.getLast?_eq_none_iff.1 hl
      subst this
      refine ⟨fun _ h => h, fun x hx => (by cases hx), fun j hj x hx => ?_, fun T _ h2 _ j hj => h2 j hj⟩
      rcases hc j hj x hx with h | h
      · exact h
      · cases h
    | some k =>
      have hne : todo ≠ [] := by intro e; subst e; simp at hl
      have hsp : todo = todo.dropLast ++ [k] := by
        have := List.dropLast_concat_getLast hne
        rw [List.getLast?_eq_some_getLast hne] at hl
        rw [Option.some.inj hl] at this
        exact this.symm
      have hlen : todo.length = todo.dropLast.length + 1 := by rw [List.length_dropLast]; have := List.length_pos_iff.2 hne; omega
      have hkm : k ∈ todo := by rw [hsp]; simp
      have hk := ht k hkm
      have hkn : k.toNat < n := by omega
      have hmem : ∀ x, x ∈ todo → x ∈ todo.dropLast ∨ x = k := by
        intro x hx
        rw [hsp] at hx
        simpa using hx
      have hsub : ∀ x, x ∈ todo.dropLast → x ∈ todo := fun x hx => List.dropLast_subset _ hx
      dsimp only
      by_cases hb : out.getD k.toNat false = true
      · rw [if_pos hb]
        obtain ⟨h1, h2, h3, h4⟩ := fromF_spec next n hn hv f todo.dropLast out ho (fun x hx => ht x (hsub x hx)) (by omega) (fun j hj x hx => by
          rcases hc j hj x hx with h | h
          · exact .inl h
          · rcases hmem x h with h | h
            · exact .inr h
            · exact .inl (by rw [h]; exact hb))
        refine ⟨h1, fun x hx => ?_, h3, fun T t1 t2 t3 => h4 T (fun x hx => t1 x (hsub x hx)) t2 t3⟩
        rcases hmem x hx with h | h
        · exact h2 x h
        · rw [h]; exact h1 _ hb
      · rw [if_neg hb]
        have hnk : next[k.toNat]? = some (next.getD k.toNat []) := by
          rw [List.getD_eq_getElem?_getD, List.getElem?_eq_getElem (by omega)]; rfl
        have hok : out[k.toNat]? = some false := by
          have h2 : k.toNat < out.length := by omega
          rw [List.getElem?_eq_getElem h2]
          rw [List.getD_eq_getElem?_getD, List.getElem?_eq_getElem h2] at hb
          simpa using hb
        have hps := pot_set next out k.toNat _ hnk hok
        have hg : ∀ j, (out.set k.toNat true).getD j false = (decide (k.toNat = j) || out.getD j false) := fun j => getD_set_true out k.toNat j (by omega)
        have hrow : ∀ x ∈ next.getD k.toNat [], 0 ≤ x ∧ x < (n : Int) := hv _ (by rw [List.getElem?_eq_some_iff] at hnk; obtain ⟨h, e⟩ := hnk; rw [← e]; exact List.getElem_mem _)
        obtain ⟨h1, h2, h3, h4⟩ := fromF_spec next n hn hv f (todo.dropLast ++ next.getD k.toNat []) (out.set k.toNat true) (by simpa using ho) (fun x hx => by
            rcases List.mem_append.1 hx with h | h
            · exact ht x (hsub x h)
            · exact hrow x h) (by rw [List.length_append]; omega) (fun j hj x hx => by
          rw [hg] at hj ⊢
          by_cases hjk : k.toNat = j
          · subst hjk; exact .inr (List.mem_append_right _ hx)
          · rcases hc j (by simpa [hjk] using hj) x hx with h | h
            · left; simp only [Bool.or_eq_true]; exact .inr h
            · rcases hmem x h with h | h
              · exact .inr (List.mem_append_left _ h)
              · left; subst h; simp)
        refine ⟨fun j hj => h1 j (by rw [hg, hj, Bool.or_true]), fun x hx => ?_, h3, fun T t1 t2 t3 => h4 T (fun x hx => ?_) (fun j hj => ?_) t3⟩
        · rcases hmem x hx with h | h
          · exact h2 x (List.mem_append_left _ h)
          · subst h; exact h1 _ (by rw [hg]; simp)
        · rcases List.mem_append.1 hx with h | h
          · exact t1 x (hsub x h)
          · exact t3 k.toNat (t1 k hkm) x h
        · rw [hg] at hj
          by_cases hjk : k.toNat = j
          · subst hjk; exact t1 k hkm
          · exact t2 j (by simpa [hjk] using hj)

theorem getD_repl (n j : Nat) : (List.replicate n false).getD j false = false := by
  rw [List.getD_eq_getElem?_getD, List.getElem?_replicate]; split <;> rfl

theorem fromRow_spec (next : List (List Int)) (n : Nat) (hn : next.length = n) (hv : ∀ r ∈ next, ∀ x ∈ r, 0 ≤ x ∧ x < (n : Int)) (i : Nat) (hi : i < n) :
    (∀ x ∈ next.getD i [], (fromRow next i).getD x.toNat false = true) ∧ (∀ j, (fromRow next i).getD j false = true → ∀ x ∈ next.getD j [], (fromRow next i).getD x.toNat false = true) ∧
    (∀ T : Nat → Prop, (∀ x ∈ next.getD i [], T x.toNat) → (∀ j, T j → ∀ x ∈ next.getD j [], T x.toNat) → ∀ j, (fromRow next i).getD j false = true → T j) := by
  unfold fromRow
  have hrow : ∀ x ∈ next.getD i [], 0 ≤ x ∧ x < (n : Int) := by
    intro x hx
    refine hv (next.getD i []) ?_ x hx
    rw [List.getD_eq_getElem?_getD, List.getElem?_eq_getElem (by omega)]; exact List.getElem_mem _
  obtain ⟨_, h2, h3, h4⟩ := fromF_spec next n hn hv (pot next (List.replicate next.length false) + (next.getD i []).length + 1) (next.getD i []) (List.replicate next.length false) (by simpa using hn) hrow (by omega)
    (fun j hj => by rw [getD_repl] at hj; cases hj)
  exact ⟨h2, h3, fun T t1 t2 => h4 T t1 (fun j hj => by rw [getD_repl] at hj; cases hj) t2⟩

theorem getD_false_lt {l : List Bool} {j : Nat} (h : l.getD j false = true) : j < l.length := by
  rw [List.getD_eq_getElem?_getD] at h
  cases hj : l[j]? with
  | none => rw [hj] at h; cases h
  | some b => exact (List.getElem?_eq_some_iff.1 hj).1

theorem rel_rows (next : List (List Int)) (n i j : Nat) (hi : i < n) : rel ((List.range n).map (fromRow next)) i j = (fromRow next i).getD j false := by
  unfold rel
  congr 1
  rw [List.getD_eq_getElem?_getD, List.getElem?_map, List.getElem?_range hi]; rfl

theorem transR_rows (next : List (List Int)) (n : Nat) (hn : next.length = n) (hv : ∀ r ∈ next, ∀ x ∈ r, 0 ≤ x ∧ x < (n : Int)) : TransR n ((List.range n).map (fromRow next)) := by
  intro i j k hi hj hk h1 h2
  rw [rel_rows _ _ _ _ hi] at h1 ⊢
  rw [rel_rows _ _ _ _ hj] at h2
  obtain ⟨a1, a2, _⟩ := fromRow_spec next n hn hv i hi
  obtain ⟨_, _, a3⟩ := fromRow_spec next n hn hv j hj
  exact a3 (fun k => (fromRow next i).getD k false = true) (fun x hx => a2 j h1 x hx) (fun j hj => a2 j hj) k h2

def Gr.dim (g : Gr) : Nat := if g.check = 0 then g.lines.length else 0

theorem Gr.sq (g : Gr) : Sq g.dim g.reach := by
  unfold Gr.dim Gr.reach
  split
  · refine ⟨by simp, fun r hr => ?_⟩
    obtain ⟨i, _, rfl⟩ := List.mem_map.1 hr
    rw [fromRow_length, g.followers_length]
  · exact ⟨rfl, by simp⟩

theorem Gr.transR (g : Gr) : TransR g.dim g.reach := by
  unfold Gr.dim Gr.reach
  split
  · rename_i h
    have := Gr.followers_valid (Gr.check_ok h).2
    rw [g.followers_length] at this
    exact transR_rows g.followers g.lines.length g.followers_length this
  · intro i j k hi; omega

theorem Gr.dim_le (g : Gr) : g.dim ≤ g.lines.length := by unfold Gr.dim; split <;> omega

/-- Before is what the table says. -/
theorem Gr.before_bef {g : Gr} (h : g.check = 0) {i j : Nat} (hi : i < g.lines.length) (hj : j < g.lines.length) : g.before i j = bef g.reach i j := by
  unfold Gr.before bef Gr.reach
  rw [if_pos h, rel_rows _ _ _ _ hi, rel_rows _ _ _ _ hj]
/-- A path whose inner lines are below k. -/
inductive PathB (E : Nat → Nat → Prop) (k : Nat) (i : Nat) : Nat → Prop
  | edge {j : Nat} : E i j → PathB E k i j
  | step {m j : Nat} : PathB E k i m → m < k → E m j → PathB E k i j

theorem PathB.mono {E : Nat → Nat → Prop} {k k' i j : Nat} (h : PathB E k i j) (hk : k ≤ k') : PathB E k' i j := by
  induction h with
  | edge h => exact .edge h
  | step _ h2 h3 ih => exact .step ih (by omega) h3

theorem PathB.trans {E : Nat → Nat → Prop} {k i m j : Nat} (h : PathB E k i m) (hm : m < k) (h2 : PathB E k m j) : PathB E k i j := by
  induction h2 with
  | edge h3 => exact .step h hm h3
  | step _ h4 h5 ih => exact .step ih h4 h5

theorem PathB.split {E : Nat → Nat → Prop} {k i j : Nat} (h : PathB E (k + 1) i j) : PathB E k i j ∨ (PathB E k i k ∧ PathB E k k j) := by
  induction h with
  | edge h => exact .inl (.edge h)
  | step h1 h2 h3 ih =>
    rename_i m j
    by_cases hm : m = k
    · subst hm
      rcases ih with h | ⟨h, _⟩
      · exact .inr ⟨h, .edge h3⟩
      · exact .inr ⟨h, .edge h3⟩
    · rcases ih with h | ⟨h, h'⟩
      · exact .inl (.step h (by omega) h3)
      · exact .inr ⟨h, .step h' (by omega) h3⟩

def putR (rows : List (List Bool)) (i j : Nat) (b : Bool) : List (List Bool) := rows.set i ((rows.getD i []).set j b)

theorem rel_putR {n : Nat} {rows : List (List Bool)} (hq : Sq n rows) {i j : Nat} (hi : i < n) (hj : j < n) (b : Bool) (x y : Nat) : rel (putR rows i j b) x y = if x = i ∧ y = j then b else rel rows x y := by
  have hil : i < rows.length := by rw [hq.1]; exact hi
  have hrow : (rows.getD i []).length = n := by rw [List.getD_eq_getElem?_getD, List.getElem?_eq_getElem hil]; exact hq.2 _ (List.getElem_mem _)
  unfold rel putR
  simp only [List.getD_eq_getElem?_getD, List.getElem?_set] at hrow ⊢
  by_cases hx : x = i
  · subst hx
    by_cases hy : y = j
    · subst hy
      simp [hil, List.getElem?_set]
      simp [List.getElem?_eq_getElem hil] at hrow
      simp [hrow, hj]
    · have hy' : ¬ j = y := fun e => hy e.symm
      simp [hil, hy, hy']
  · have hx' : ¬ i = x := fun e => hx e.symm
    simp [hx, hx']

theorem sq_putR {n : Nat} {rows : List (List Bool)} (hq : Sq n rows) {i j : Nat} (hi : i < n) (b : Bool) : Sq n (putR rows i j b) := by
  have hil : i < rows.length := by rw [hq.1]; exact hi
  refine ⟨by unfold putR; rw [List.length_set]; exact hq.1, fun r hr => ?_⟩
  unfold putR at hr
  rcases List.mem_or_eq_of_mem_set hr with h | h
  · exact hq.2 r h
  · rw [h, List.length_set, List.getD_eq_getElem?_getD, List.getElem?_eq_getElem hil]; exact hq.2 _ (List.getElem_mem _)

/-- What holds of the table all the time: true entries are paths; it only grows. -/
structure WInv (E : Nat → Nat → Prop) (n : Nat) (R₀ R : List (List Bool)) : Prop where
  sq : Sq n R
  sound : ∀ i j, i < n → j < n → rel R i j = true → PathB E n i j
  grow : ∀ i j, rel R₀ i j = true → rel R i j = true

def wput (R : List (List Bool)) (k i j : Nat) : List (List Bool) := putR R i j (rel R i j || (rel R i k && rel R k j))
def warJ (k i : Nat) (R : List (List Bool)) (m : Nat) : List (List Bool) := (List.range m).foldl (fun R j => wput R k i j) R
def warI (n k : Nat) (R : List (List Bool)) (m : Nat) : List (List Bool) := (List.range m).foldl (fun R i => warJ k i R n) R
def war (n : Nat) (R : List (List Bool)) (m : Nat) : List (List Bool) := (List.range m).foldl (fun R k => warI n k R n) R

theorem wput_inv {E : Nat → Nat → Prop} {n k i j : Nat} {R₀ R : List (List Bool)} (h : WInv E n R₀ R) (hk : k < n) (hi : i < n) (hj : j < n) :
    WInv E n R₀ (wput R k i j) ∧ (∀ x y, rel R x y = true → rel (wput R k i j) x y = true) ∧ ((rel R i j || (rel R i k && rel R k j)) = true → rel (wput R k i j) i j = true) := by
  have hg : ∀ x y, rel R x y = true → rel (wput R k i j) x y = true := fun x y hxy => by
    unfold wput
    rw [rel_putR h.sq hi hj]
    split
    · rename_i hh; obtain ⟨rfl, rfl⟩ := hh; simp [hxy]
    · exact hxy
  refine ⟨⟨sq_putR h.sq hi _, fun x y hx hy hxy => ?_, fun x y hxy => hg x y (h.grow x y hxy)⟩, hg, fun hh => ?_⟩
  · unfold wput at hxy
    rw [rel_putR h.sq hi hj] at hxy
    split at hxy
    · rename_i hh
      obtain ⟨rfl, rfl⟩ := hh
      simp only [Bool.or_eq_true, Bool.and_eq_true] at hxy
      rcases hxy with h1 | ⟨h1, h2⟩
      · exact h.sound _ _ hx hy h1
      · exact (h.sound _ _ hx hk h1).trans hk (h.sound _ _ hk hy h2)
    · exact h.sound x y hx hy hxy
  · unfold wput
    rw [rel_putR h.sq hi hj]
    simp [hh]

theorem warJ_succ (k i : Nat) (R : List (List Bool)) (m : Nat) : warJ k i R (m + 1) = wput (warJ k i R m) k i m := by unfold warJ; rw [List.range_succ, List.foldl_append]; rfl
theorem warI_succ (n k : Nat) (R : List (List Bool)) (m : Nat) : warI n k R (m + 1) = warJ k m (warI n k R m) n := by unfold warI; rw [List.range_succ, List.foldl_append]; rfl
theorem war_succ (n : Nat) (R : List (List Bool)) (m : Nat) : war n R (m + 1) = warI n m (war n R m) n := by unfold war; rw [List.range_succ, List.foldl_append]; rfl

theorem warJ_inv {E : Nat → Nat → Prop} {n k i : Nat} {R : List (List Bool)} (h : WInv E n R R) (hk : k < n) (hi : i < n) : ∀ m, m ≤ n → WInv E n R (warJ k i R m) ∧ ∀ j, j < m → (rel R i j || (rel R i k && rel R k j)) = true → rel (warJ k i R m) i j = true
  | 0, _ => ⟨h, fun j hj => by omega⟩
  | m + 1, hm => by
    obtain ⟨h1, h2⟩ := warJ_inv h hk hi m (by omega)
    obtain ⟨k1, k2, k3⟩ := wput_inv h1 hk hi (show m < n by omega)
    rw [warJ_succ]
    refine ⟨k1, fun j hj hh => ?_⟩
    by_cases hjm : j = m
    · subst hjm
      refine k3 ?_
      simp only [Bool.or_eq_true, Bool.and_eq_true] at hh ⊢
      rcases hh with a | ⟨a, b⟩
      · exact .inl (h1.grow _ _ a)
      · exact .inr ⟨h1.grow _ _ a, h1.grow _ _ b⟩
    · exact k2 _ _ (h2 j (by omega) hh)

theorem warI_inv {E : Nat → Nat → Prop} {n k : Nat} {R : List (List Bool)} (h : WInv E n R R) (hk : k < n) : ∀ m, m ≤ n → WInv E n R (warI n k R m) ∧ ∀ i, i < m → ∀ j, j < n → (rel R i j || (rel R i k && rel R k j)) = true → rel (warI n k R m) i j = true
  | 0, _ => ⟨h, fun j hj => by omega⟩
  | m + 1, hm => by
    obtain ⟨h1, h2⟩ := warI_inv h hk m (by omega)
    obtain ⟨k1, k2⟩ := warJ_inv (i := m) (R := warI n k R m) ⟨h1.sq, h1.sound, fun _ _ h => h⟩ hk (by omega) n (Nat.le_refl _)
    rw [warI_succ]
    refine ⟨⟨k1.sq, k1.sound, fun i j hij => k1.grow _ _ (h1.grow _ _ hij)⟩, fun i hi j hj hh => ?_⟩
    by_cases him : i = m
    · subst him
      refine k2 j hj ?_
      simp only [Bool.or_eq_true, Bool.and_eq_true] at hh ⊢
      rcases hh with a | ⟨a, b⟩
      · exact .inl (h1.grow _ _ a)
      · exact .inr ⟨h1.grow _ _ a, h1.grow _ _ b⟩
    · exact k1.grow _ _ (h2 i (by omega) j hj hh)

theorem war_inv {E : Nat → Nat → Prop} {n : Nat} {R : List (List Bool)} (h : WInv E n R R) (h0 : ∀ i j, i < n → j < n → E i j → rel R i j = true) : ∀ m, m ≤ n → WInv E n R (war n R m) ∧ ∀ i j, i < n → j < n → PathB E m i j → rel (war n R m) i j = true
  | 0, _ => ⟨h, fun i j hi hj hp => by
      cases hp with
      | edge he => exact h0 i j hi hj he
      | step _ h2 _ => omega⟩
  | m + 1, hm => by
    obtain ⟨h1, h2⟩ := war_inv h h0 m (by omega)
    obtain ⟨k1, k2⟩ := warI_inv (k := m) (R := war n R m) ⟨h1.sq, h1.sound, fun _ _ h => h⟩ (by omega) n (Nat.le_refl _)
    rw [war_succ]
    refine ⟨⟨k1.sq, k1.sound, fun i j hij => k1.grow _ _ (h1.grow _ _ hij)⟩, fun i j hi hj hp => k2 i hi j hj ?_⟩
    simp only [Bool.or_eq_true, Bool.and_eq_true]
    rcases hp.split with a | ⟨a, b⟩
    · exact .inl (h2 i j hi hj a)
    · exact .inr ⟨h2 i m hi (by omega) a, h2 m j (by omega) hj b⟩
/-- The table when the edges are in it. -/
def addE (R : List (List Bool)) (e : Int × Int) : List (List Bool) := if 0 ≤ e.1 ∧ 0 ≤ e.2 then putR R e.1.toNat e.2.toNat true else R
def edgeT (n : Nat) (es : List (Int × Int)) : List (List Bool) := es.foldl addE (List.replicate n (List.replicate n false))
theorem edgeT_take {n : Nat} {es : List (Int × Int)} {k : Nat} (hk : k < es.length) : edgeT n (es.take (k + 1)) = addE (edgeT n (es.take k)) es[k] := by
  rw [List.take_succ_eq_append_getElem hk]
  unfold edgeT
  rw [List.foldl_append]; rfl

def IsE (es : List (Int × Int)) (i j : Nat) : Prop := ((i : Int), (j : Int)) ∈ es

theorem edgeT_go {n : Nat} : ∀ (es : List (Int × Int)) (R : List (List Bool)), okEdges n es → Sq n R → Sq n (es.foldl addE R) ∧ ∀ i j, i < n → j < n → (rel (es.foldl addE R) i j = true ↔ rel R i j = true ∨ IsE es i j)
  | [], R, _, hq => ⟨hq, fun i j _ _ => by simp [IsE]⟩
  | e :: es, R, ho, hq => by
    have he := ho e (by simp)
    have hq2 : Sq n (addE R e) := by
      unfold addE; split
      · exact sq_putR hq (by omega) _
      · exact hq
    obtain ⟨h1, h2⟩ := edgeT_go es (addE R e) (fun x hx => ho x (by simp [hx])) hq2
    refine ⟨h1, fun i j hi hj => ?_⟩
    rw [List.foldl_cons, h2 i j hi hj]
    have : rel (addE R e) i j = true ↔ rel R i j = true ∨ e = ((i : Int), (j : Int)) := by
      unfold addE
      obtain ⟨a, b⟩ := e
      dsimp only at he ⊢
      split
      · rw [rel_putR hq (by omega) (by omega)]
        split
        · rename_i hh; simp; right; omega
        · rename_i hh
          simp only [Prod.mk.injEq]
          constructor
          · exact .inl
          · rintro (h | h)
            · exact h
            · exact absurd ⟨by omega, by omega⟩ hh
      · rename_i hh
        simp only [Prod.mk.injEq]
        constructor
        · exact .inl
        · rintro (h | h)
          · exact h
          · exact absurd ⟨by omega, by omega⟩ hh
    rw [this]
    unfold IsE
    rw [List.mem_cons]
    constructor
    · rintro ((h | h) | h)
      · exact .inl h
      · exact .inr (.inl h.symm)
      · exact .inr (.inr h)
    · rintro (h | h | h)
      · exact .inl (.inl h)
      · exact .inl (.inr h.symm)
      · exact .inr h

theorem rel_repl (n i j : Nat) : rel (List.replicate n (List.replicate n false)) i j = false := by
  unfold rel
  by_cases hi : i < n
  · have : (List.replicate n (List.replicate n false)).getD i [] = List.replicate n false := by simp [List.getD_eq_getElem?_getD, List.getElem?_replicate, hi]
    rw [this]; exact getD_repl n j
  · have : (List.replicate n (List.replicate n false)).getD i [] = [] := by simp [List.getD_eq_getElem?_getD, List.getElem?_replicate, hi]
    rw [this]; rfl

theorem fol_mem : ∀ (es : List (Int × Int)) (rows : List (List Int)) (i : Nat) (x : Int), i < rows.length → (x ∈ (es.foldl folStep rows).getD i [] ↔ x ∈ rows.getD i [] ∨ (0 ≤ x ∧ ((i : Int), x) ∈ es))
  | [], rows, i, x, _ => by simp
  | e :: es, rows, i, x, hi => by
    rw [List.foldl_cons, fol_mem es _ i x (by rw [folStep_length]; exact hi)]
    obtain ⟨a, b⟩ := e
    have : x ∈ (folStep rows (a, b)).getD i [] ↔ x ∈ rows.getD i [] ∨ (0 ≤ x ∧ ((i : Int), x) = (a, b)) := by
      unfold folStep
      dsimp only
      split
      · rename_i hh
        rw [List.getD_eq_getElem?_getD, List.getD_eq_getElem?_getD, List.getElem?_modify, List.getElem?_eq_getElem hi]
        simp only [Option.map_eq_map, Option.map_some, Option.getD_some, Prod.mk.injEq]
        split
        · rename_i e
          rw [List.mem_append, List.mem_singleton]
          constructor
          · rintro (h | h)
            · exact .inl h
            · exact .inr ⟨by omega, by omega, h⟩
          · rintro (h | h)
            · exact .inl h
            · exact .inr h.2.2
        · rename_i e
          constructor
          · exact .inl
          · rintro (h | h)
            · exact h
            · exact absurd (by omega) e
      · rename_i hh
        simp only [Prod.mk.injEq]
        constructor
        · exact .inl
        · rintro (h | h)
          · exact h
          · exact absurd ⟨by omega, by omega⟩ hh
    rw [this, List.mem_cons]
    constructor
    · rintro ((h | ⟨h, h'⟩) | ⟨h, h'⟩)
      · exact .inl h
      · exact .inr ⟨h, .inl h'⟩
      · exact .inr ⟨h, .inr h'⟩
    · rintro (h | ⟨h, h' | h'⟩)
      · exact .inl (.inl h)
      · exact .inl (.inr ⟨h, h'⟩)
      · exact .inr ⟨h, h'⟩

theorem fol_E {g : Gr} {i : Nat} (hi : i < g.lines.length) (x : Int) : x ∈ g.followers.getD i [] ↔ 0 ≤ x ∧ ((i : Int), x) ∈ g.edges := by
  unfold Gr.followers
  rw [fol_mem _ _ i x (by simpa using hi)]
  have : (List.replicate g.lines.length ([] : List Int)).getD i [] = [] := by
    rw [List.getD_eq_getElem?_getD, List.getElem?_replicate]; split <;> rfl
  rw [this]; simp

theorem sq_ext {n : Nat} {R S : List (List Bool)} (hR : Sq n R) (hS : Sq n S) (h : ∀ i j, i < n → j < n → rel R i j = rel S i j) : R = S := by
  refine List.ext_getElem (by rw [hR.1, hS.1]) fun i h1 h2 => ?_
  have l1 : R[i].length = n := hR.2 _ (List.getElem_mem _)
  have l2 : S[i].length = n := hS.2 _ (List.getElem_mem _)
  refine List.ext_getElem (by rw [l1, l2]) fun j g1 g2 => ?_
  have := h i j (by rw [← hR.1]; exact h1) (by omega)
  unfold rel at this
  simpa [List.getD_eq_getElem?_getD, List.getElem?_eq_getElem, h1, h2, g1, g2] using this

/-- The reference's table is the program's. -/
theorem war_reach {g : Gr} (hc : g.check = 0) : war g.lines.length (edgeT g.lines.length g.edges) g.lines.length = g.reach := by
  have hok := (Gr.check_ok hc).2
  generalize hn : g.lines.length = n at hok
  have hq0 : Sq n (List.replicate n (List.replicate n false)) := ⟨by simp, fun r hr => by simp at hr; simp [hr.2]⟩
  obtain ⟨hq, he⟩ := edgeT_go g.edges _ hok hq0
  have he' : ∀ i j, i < n → j < n → (rel (edgeT n g.edges) i j = true ↔ IsE g.edges i j) := fun i j hi hj => by
    have := he i j hi hj
    rw [rel_repl] at this
    unfold edgeT
    rw [this]; simp
  have hW : WInv (IsE g.edges) n (edgeT n g.edges) (edgeT n g.edges) := ⟨hq, fun i j hi hj h => .edge ((he' i j hi hj).1 h), fun _ _ h => h⟩
  obtain ⟨h1, h2⟩ := war_inv hW (fun i j hi hj h => (he' i j hi hj).2 h) n (Nat.le_refl _)
  have hdim : g.dim = n := by unfold Gr.dim; rw [if_pos hc, hn]
  refine sq_ext h1.sq (by have := g.sq; rwa [hdim] at this) fun i j hi hj => ?_
  have hfl := g.followers_length
  rw [hn] at hfl
  have hval := Gr.followers_valid (Gr.check_ok hc).2
  rw [hfl] at hval
  have hreach : rel g.reach i j = (fromRow g.followers i).getD j false := by
    unfold Gr.reach
    rw [if_pos hc, hn, rel_rows _ _ _ _ hi]
  rw [hreach, Bool.eq_iff_iff]
  obtain ⟨f1, f2, f3⟩ := fromRow_spec g.followers n hfl hval i hi
  have hE : ∀ {a b : Nat}, a < n → IsE g.edges a b → (b : Int) ∈ g.followers.getD a [] := fun ha h => (fol_E (by omega) _).2 ⟨by omega, h⟩
  constructor
  · intro h
    have hp := h1.sound i j hi hj h
    clear h hj hreach
    induction hp with
    | edge h => have := f1 _ (hE hi h); simpa using this
    | step h3 h4 h5 ih => have := f2 _ ih _ (hE h4 h5); simpa using this
  · intro h
    refine h2 i j hi hj ?_
    refine f3 (fun j => PathB (IsE g.edges) n i j) (fun x hx => ?_) (fun k hk x hx => ?_) j h
    · obtain ⟨x0, x1⟩ := (fol_E (by omega) x).1 hx
      refine .edge ?_
      unfold IsE
      rw [Int.toNat_of_nonneg x0]; exact x1
    · have hkn : k < n := by
        rcases Nat.lt_or_ge k n with h | h
        · exact h
        · rw [List.getD_eq_getElem?_getD, List.getElem?_eq_none (by omega)] at hx; cases hx
      obtain ⟨x0, x1⟩ := (fol_E (by omega) x).1 hx
      refine .step hk hkn ?_
      unfold IsE
      rw [Int.toNat_of_nonneg x0]; exact x1
theorem reach_get {g : Gr} (h : g.check = 0) {i : Nat} (hi : i < g.lines.length) : g.reach[i]? = some (fromRow g.followers i) := by
  unfold Gr.reach
  rw [if_pos h, List.getElem?_map, List.getElem?_range hi]; rfl

/-- What a line reaches, what that reaches it reaches too. -/
theorem reach_trans {g : Gr} (h : g.check = 0) {i j k : Nat} (hi : i < g.lines.length) (hj : j < g.lines.length) (h1 : (fromRow g.followers i).getD j false = true) (h2 : (fromRow g.followers j).getD k false = true) : (fromRow g.followers i).getD k false = true := by
  have hv := Gr.followers_valid (Gr.check_ok h).2
  obtain ⟨_, a2, _⟩ := fromRow_spec g.followers _ rfl hv i (by rw [g.followers_length]; exact hi)
  obtain ⟨_, _, a3⟩ := fromRow_spec g.followers _ rfl hv j (by rw [g.followers_length]; exact hj)
  exact a3 (fun k => (fromRow g.followers i).getD k false = true) (fun x hx => a2 j h1 x hx) (fun j hj => a2 j hj) k h2

/-- An edge leads to a line that is reached. -/
theorem edge_reached {g : Gr} (h : g.check = 0) {e : Int × Int} (he : e ∈ g.edges) (h1 : 0 ≤ e.1) (h2 : 0 ≤ e.2) : e.1.toNat < g.lines.length ∧ e.2.toNat < g.lines.length ∧ (fromRow g.followers e.1.toNat).getD e.2.toNat false = true := by
  have hok := (Gr.check_ok h).2
  have hv := Gr.followers_valid hok
  obtain ⟨⟨_, k1⟩, ⟨_, k2⟩, _⟩ := hok e he
  have l1 : e.1.toNat < g.lines.length := by omega
  obtain ⟨a1, _, _⟩ := fromRow_spec g.followers _ rfl hv e.1.toNat (by rw [g.followers_length]; exact l1)
  refine ⟨l1, by omega, a1 e.2 ((fol_E l1 _).2 ⟨h2, ?_⟩)⟩
  rw [Int.toNat_of_nonneg h1]
  exact he

theorem before_self (g : Gr) (i : Nat) : g.before i i = false := by
  unfold Gr.before; cases (fromRow g.followers i).getD i false <;> rfl
theorem before_asym (g : Gr) {i j : Nat} (h : g.before i j = true) : g.before j i = false := by
  unfold Gr.before at h ⊢
  rw [Bool.and_eq_true] at h
  rw [h.1]; simp
theorem before_trans {g : Gr} (h : g.check = 0) {i j k : Nat} (hi : i < g.lines.length) (hj : j < g.lines.length) (hk : k < g.lines.length) (h1 : g.before i j = true) (h2 : g.before j k = true) : g.before i k = true := by
  unfold Gr.before at h1 h2 ⊢
  rw [Bool.and_eq_true] at h1 h2
  rw [reach_trans h hi hj h1.1 h2.1]
  cases hc : (fromRow g.followers k).getD i false with
  | false => rfl
  | true =>
    have := reach_trans h hk hi hc h1.1
    rw [this] at h2
    exact absurd h2.2 (by simp)
end Go.Proofs.Lg
