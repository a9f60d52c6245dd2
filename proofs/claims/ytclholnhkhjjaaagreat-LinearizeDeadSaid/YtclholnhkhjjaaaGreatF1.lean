/-
  Part F1 of this claim's proof. Joined by merge.py from the texts of wip/tpl.
-/
import Derived.ProofKit
import Derived.OpenShut
import Derived.Deep.Strs
import Derived.Lib.SmallJoins
import Derived.Test.YtclholnhkhjjaaaGreatL1
set_option linter.unusedVariables false
set_option linter.unusedSimpArgs false
set_option linter.unnecessarySimpa false
namespace Go.Proofs.Lg
open Go Go.RowKit Go.ChangeShapes Go.WideShapes Go.ChangeAt Go.Joins Go.Deep

instance : Inhabited Vtx := ⟨⟨[], 0, ByteArray.empty, false⟩⟩

theorem map_exists {α β : Type} {f : α → β} {p : α → Prop} : ∀ (cs : List β), (∀ v ∈ cs, ∃ n, v = f n ∧ p n) → ∃ d : List α, cs = d.map f ∧ ∀ x ∈ d, p x
  | [], _ => ⟨[], rfl, by simp⟩
  | c :: cs, h => by
    obtain ⟨n, rfl, hn⟩ := h c (by simp)
    obtain ⟨d, rfl, hd⟩ := map_exists cs fun v hv => h v (List.mem_cons_of_mem _ hv)
    exact ⟨n :: d, rfl, by simpa using ⟨hn, hd⟩⟩

theorem cellsOf_Id : Tryz.prog.cellsOf 38 = 33 := by kernel_rfl
theorem cellsOf_Digest : Tryz.prog.cellsOf 36 = 32 := by kernel_rfl
theorem cellsOf_u8 : Tryz.prog.cellsOf 5 = 1 := by kernel_rfl
theorem cellsOf_int : Tryz.prog.cellsOf 3 = 1 := by kernel_rfl
theorem cellsOf_string : Tryz.prog.cellsOf 9 = 1 := by kernel_rfl
theorem cellsOf_bool : Tryz.prog.cellsOf 4 = 1 := by kernel_rfl
theorem cellsOf_Vertex : Tryz.prog.cellsOf 40 = 35 := by kernel_rfl
theorem cellsOf_Edge : Tryz.prog.cellsOf 74 = 2 := by kernel_rfl

section
variable {H : Type} {enc : TypeId × Value → H} {w : World} {base : Nat} {spare : Nat → Bool} {held : Bool}

theorem wf_i64 {n : Int} (h : (Lit.int .i64 n).wf = true) : I64 n := bounds_i64 h
theorem wf_u8 {n : Int} (h : (Lit.int .u8 n).wf = true) : 0 ≤ n ∧ n < 256 := by have := bounds_u8 h; omega

theorem read_digest {fuel : Nat} {cs : List Value} {x : DataW H × List MemPlace} (h : DataW.trod enc Tryz.prog w base spare held fuel 36 cs = some x) : ∃ d : List Int, cs = d.map (Value.int .u8) ∧ d.length = 32 ∧ Bytes d := by
  obtain ⟨xs, m, _, _, hl, hxl, hi⟩ := DataW.trod_array Tryz.underlying36 h
  rw [cellsOf_Digest] at hl
  rw [cellsOf_u8] at hi
  obtain ⟨d, rfl, hd⟩ := map_exists (f := Value.int .u8) (p := fun n => 0 ≤ n ∧ n < 256) cs (fun v hv => by
    obtain ⟨i, hil, rfl⟩ := List.mem_iff_getElem.1 hv
    have h1 := hi i (by omega)
    rw [List.getElem?_eq_getElem (by omega), Nat.mul_one] at h1
    obtain ⟨n, hn, _, hw⟩ := DataW.trod_int Tryz.underlying5 h1
    have hn2 := congrArg (fun l => l[0]?) hn
    simp [hil] at hn2
    exact ⟨n, hn2, wf_u8 hw⟩)
  exact ⟨d, rfl, by simpa using hl, hd⟩

theorem read_id {fuel : Nat} {cs : List Value} {x : DataW H × List MemPlace} (h : DataW.trod enc Tryz.prog w base spare held fuel 38 cs = some x) : ∃ (d : List Int) (n : Int), cs = d.map (Value.int .u8) ++ [Value.int .i64 n] ∧ d.length = 32 ∧ Bytes d ∧ I64 n := by
  obtain ⟨y0, y1, m, _, hl, h0, h1⟩ := trod_struct2 Tryz.underlying38 h
  dsimp only at h0 h1
  rw [cellsOf_Id] at hl
  rw [cellsOf_Digest] at h0
  rw [cellsOf_int] at h1
  obtain ⟨d, hd, hdl, hdb⟩ := read_digest h0
  obtain ⟨n, hn, _, hw⟩ := DataW.trod_int Tryz.underlying3 h1
  refine ⟨d, n, ?_, hdl, hdb, wf_i64 hw⟩
  rw [← hd, ← hn, List.drop_zero]
  rw [show cs.take 32 ++ (cs.drop 32).take 1 = cs.take 33 from (List.take_add (i := 32) (j := 1)).symm]
  exact (List.take_of_length_le (by omega)).symm

theorem read_vertex {fuel : Nat} {cs : List Value} {x : DataW H × List MemPlace} (h : DataW.trod enc Tryz.prog w base spare held fuel 40 cs = some x) : ∃ v : Vtx, cs = v.cells ∧ v.ok ∧ v.text.size ≤ maxLen := by
  obtain ⟨y0, y1, y2, m, _, hl, h0, h1, h2⟩ := trod_struct3 Tryz.underlying40 h
  dsimp only at h0 h1 h2
  rw [cellsOf_Vertex] at hl
  rw [cellsOf_Id] at h0
  rw [cellsOf_string] at h1
  rw [cellsOf_bool] at h2
  obtain ⟨d, n, hd, hdl, hdb, hn⟩ := read_id h0
  obtain ⟨s, hs, _, hsl⟩ := DataW.trod_string Tryz.underlying9 h1
  obtain ⟨b, hb, _⟩ := DataW.trod_bool Tryz.underlying4 h2
  refine ⟨⟨d, n, s, b⟩, ?_, ⟨hdl, hdb, hn.1, hn.2⟩, hsl⟩
  unfold Vtx.cells
  dsimp only
  rw [show d.map (Value.int .u8) ++ [Value.int .i64 n, Value.string s, Value.bool b] = (d.map (Value.int .u8) ++ [Value.int .i64 n]) ++ [Value.string s] ++ [Value.bool b] by simp, ← hd, ← hs, ← hb, List.drop_zero]
  rw [show cs.take 33 ++ (cs.drop 33).take 1 = cs.take 34 from (List.take_add (i := 33) (j := 1)).symm, show cs.take 34 ++ (cs.drop 34).take 1 = cs.take 35 from (List.take_add (i := 34) (j := 1)).symm]
  exact (List.take_of_length_le (by omega)).symm

theorem read_edge {fuel : Nat} {cs : List Value} {x : DataW H × List MemPlace} (h : DataW.trod enc Tryz.prog w base spare held fuel 74 cs = some x) : ∃ e : Int × Int, cs = edgeCells e ∧ I64 e.1 ∧ I64 e.2 := by
  obtain ⟨y0, y1, m, _, hl, h0, h1⟩ := trod_struct2 Tryz.underlying74 h
  dsimp only at h0 h1
  rw [cellsOf_Edge] at hl
  rw [cellsOf_int] at h0 h1
  obtain ⟨a, ha, _, hwa⟩ := DataW.trod_int Tryz.underlying3 h0
  obtain ⟨b, hb, _, hwb⟩ := DataW.trod_int Tryz.underlying3 h1
  refine ⟨(a, b), ?_, wf_i64 hwa, wf_i64 hwb⟩
  unfold edgeCells
  rw [show [Value.int .i64 (a, b).1, Value.int .i64 (a, b).2] = [Value.int .i64 a] ++ [Value.int .i64 b] from rfl, ← ha, ← hb, List.drop_zero, show cs.take 1 ++ (cs.drop 1).take 1 = cs.take 2 from (List.take_add (i := 1) (j := 1)).symm]
  exact (List.take_of_length_le (by omega)).symm

/-- A slice of structs, each of which reads. -/
theorem read_slice {α : Type} [Inhabited α] {t e : TypeId} {size fuel : Nat} {cs : List Value} {x : DataW H × List MemPlace} (ht : Tryz.prog.underlying t = some (.slice e)) (hC : Tryz.prog.cellsOf e = size) (hs : 0 < size) (enc' : α → List Value) (ok : α → Prop)
    (hel : ∀ (m : Nat) (c : List Value) (y : DataW H × List MemPlace), DataW.trod enc Tryz.prog w base spare held m e c = some y → ∃ v : α, c = enc' v ∧ ok v)
    (h : DataW.trod enc Tryz.prog w base spare held fuel t cs = some x) : ∃ (v : Value) (xs : List α), cs = [v] ∧ SlN w v size (xs.map enc') ∧ ∀ a ∈ xs, ok a := by
  rcases open_slice ht h with ⟨rfl, _⟩ | ⟨a, len, cap, m, n, D, Pl, rfl, hb, hl, hm, hmm, _, hi⟩
  · exact ⟨_, [], rfl, ⟨none, 0, rfl, Nat.le_refl _, by omega, fun h => absurd rfl h⟩, by simp⟩
  · have hlm : len ≤ m := by rw [hmm]; split <;> omega
    rw [hC] at hi
    obtain ⟨f, hf⟩ := choose_lt (n := len) (p := fun i (v : α) => ok v ∧ w.cells? base (a.add (i * size)) size = some (enc' v)) fun i hil => by
      obtain ⟨c, hc, ht2⟩ := hi i (by omega)
      obtain ⟨v, rfl, hv⟩ := hel n c _ ht2
      exact ⟨v, hv, hc⟩
    refine ⟨_, (List.range len).map f, rfl, ⟨some a, cap, by simp, by simpa using hl, by unfold maxLen at hm; omega, fun hne => ?_⟩, fun y hy => ?_⟩
    · have hpos : 0 < len := by
        rcases Nat.eq_zero_or_pos len with h0 | h0
        · subst h0; exact absurd rfl hne
        · exact h0
      have hsp : a.spot = none := by
        obtain ⟨_, h1, h2⟩ := World.cells?_some (hf 0 hpos).2
        have h3 := h2 0 hs
        rw [List.getElem?_eq_getElem (by omega)] at h3
        have := World.cell?_spot h3
        simpa [Addr.add] using this
      obtain ⟨b, off, sp⟩ := a
      simp only at hsp
      subst hsp
      refine ⟨b, off, rfl, fun i u hu => ?_⟩
      rw [List.map_map, List.getElem?_map] at hu
      obtain ⟨i', hi', rfl⟩ := Option.map_eq_some_iff.1 hu
      obtain ⟨hil, rfl⟩ := List.getElem?_eq_some_iff.1 hi'
      simp only [List.length_range] at hil
      simp only [List.getElem_range, Function.comp]
      obtain ⟨_, h1, h2⟩ := World.cells?_some (hf i hil).2
      intro j v hv
      have hj : j < size := by rw [← h1]; exact (List.getElem?_eq_some_iff.1 hv).1
      have := h2 j hj
      rw [hv] at this
      rw [← this]
      have e : ((⟨b, off, none⟩ : Addr).add (i * size)).add j = ⟨b, off + i * size + j, none⟩ := by
        rw [Addr.add_mid, Addr.add_mid]
      rw [e]
    · obtain ⟨i, hi, rfl⟩ := List.mem_map.1 hy
      exact (hf i (List.mem_range.1 hi)).1

set_option maxRecDepth 100000 in
theorem graph_open {r : Reach} {b0 : Nat} {v : Value} {d : DataW H} {p : List MemPlace} (hv : Value.okWide Tryz.prog w r b0 25 v) (h : DataW.Trod enc Tryz.prog w base spare held 25 v d p) :
    ∃ (vl ve : Value) (g : Gr), v = .agg #[vl, ve] ∧ GrIn w vl ve g := by
  obtain ⟨c0, c1, y0, y1, n, rfl, _, _, h0, h1⟩ := open_agg2 Tryz.underlying25 (by kernel_rfl) (by kernel_rfl) hv h
  dsimp only at h0 h1
  obtain ⟨vl, lines, hl1, hl2, hl3⟩ := read_slice (α := Vtx) Tryz.underlying22 cellsOf_Vertex (by decide) Vtx.cells (fun v => v.ok ∧ v.text.size ≤ maxLen) (fun m c y hy => read_vertex hy) h0
  obtain ⟨ve, edges, he1, he2, he3⟩ := read_slice (α := Int × Int) Tryz.underlying23 cellsOf_Edge (by decide) edgeCells (fun e => I64 e.1 ∧ I64 e.2) (fun m c y hy => read_edge hy) h1
  obtain rfl := (List.singleton_inj.1 hl1)
  obtain rfl := (List.singleton_inj.1 he1)
  exact ⟨c0, c1, ⟨lines, edges⟩, rfl, hl2, he2, fun x hx => (hl3 x hx).1, he3, fun x hx => by have := (hl3 x hx).2; unfold maxLen at this; omega⟩
end
end Go.Proofs.Lg
