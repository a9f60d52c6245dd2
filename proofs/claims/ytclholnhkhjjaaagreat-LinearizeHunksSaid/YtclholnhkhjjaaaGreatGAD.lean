/-
  Part GAD of this claim's proof. Joined by merge.py from the texts of wip/tpl.
-/
import Derived.ProofKit
import Derived.OpenShut
import Derived.Deep.Strs
import Derived.Lib.SmallJoins
import Derived.Test.YtclholnhkhjjaaaGreatGAC
import Derived.Test.YtclholnhkhjjaaaGreatOwn
set_option linter.unusedVariables false
set_option linter.unusedSimpArgs false
set_option linter.unnecessarySimpa false
namespace Go.Proofs.Lg
open Go Go.RowKit Go.ChangeShapes Go.WideShapes Go.ChangeAt Go.Joins Go.Deep
instance : Inhabited Vtx := ⟨⟨[], 0, ByteArray.empty, false⟩⟩
theorem map_exists {α β : Type} {f : α → β} {p : α → Prop} : ∀ (cs : List β), (∀ v ∈ cs, ∃ n, v = f n ∧ p n) → ∃ d : List α, cs = d.map f ∧ ∀ x ∈ d, p x
 | [], _ => ⟨[], rfl, by simp⟩
 | c :: cs, h => by
   obtain ⟨n, rfl, hn⟩ := h c (by simp)
   obtain ⟨d, rfl, hd⟩ := map_exists cs fun v hv => h v (List.mem_cons_of_mem _ hv)
   exact ⟨n :: d, rfl, by simpa using ⟨hn, hd⟩⟩
theorem cellsOf_Id : Tryz.prog.cellsOf 38 = 33 := by kernel_rfl
theorem cellsOf_Digest : Tryz.prog.cellsOf 36 = 32 := by kernel_rfl
theorem cellsOf_u8 : Tryz.prog.cellsOf 5 = 1 := by kernel_rfl
theorem cellsOf_int : Tryz.prog.cellsOf 3 = 1 := by kernel_rfl
theorem cellsOf_string : Tryz.prog.cellsOf 9 = 1 := by kernel_rfl
theorem cellsOf_bool : Tryz.prog.cellsOf 4 = 1 := by kernel_rfl
theorem cellsOf_Vertex : Tryz.prog.cellsOf 40 = 35 := by kernel_rfl
theorem cellsOf_Edge : Tryz.prog.cellsOf 74 = 2 := by kernel_rfl
section
variable {H : Type} {enc : TypeId × Value → H} {w : World} {base : Nat} {spare : Nat → Bool} {held : Bool}
theorem wf_i64 {n : Int} (h : (Lit.int .i64 n).wf = true) : I64 n := bounds_i64 h
theorem wf_u8 {n : Int} (h : (Lit.int .u8 n).wf = true) : 0 ≤ n ∧ n < 256 := by have := bounds_u8 h; omega
theorem read_digest {fuel : Nat} {cs : List Value} {x : DataW H × List MemPlace} (h : DataW.trod enc Tryz.prog w base spare held fuel 36 cs = some x) : ∃ d : List Int, cs = d.map (Value.int .u8) ∧ d.length = 32 ∧ Bytes d := by
 obtain ⟨xs, m, _, _, hl, hxl, hi⟩ := DataW.trod_array Tryz.underlying36 h
 rw [cellsOf_Digest] at hl
 rw [cellsOf_u8] at hi
 obtain ⟨d, rfl, hd⟩ := map_exists (f := Value.int .u8) (p := fun n => 0 ≤ n ∧ n < 256) cs (fun v hv => by
   obtain ⟨i, hil, rfl⟩ := List.mem_iff_getElem.1 hv
   have h1 := hi i (by omega)
   rw [List.getElem?_eq_getElem (by omega), Nat.mul_one] at h1
   obtain ⟨n, hn, _, hw⟩ := DataW.trod_int Tryz.underlying5 h1
   have hn2 := congrArg (fun l => l[0]?) hn
   simp [hil] at hn2
   exact ⟨n, hn2, wf_u8 hw⟩)
 exact ⟨d, rfl, by simpa using hl, hd⟩
theorem read_id {fuel : Nat} {cs : List Value} {x : DataW H × List MemPlace} (h : DataW.trod enc Tryz.prog w base spare held fuel 38 cs = some x) : ∃ (d : List Int) (n : Int), cs = d.map (Value.int .u8) ++ [Value.int .i64 n] ∧ d.length = 32 ∧ Bytes d ∧ I64 n := by
 obtain ⟨y0, y1, m, _, hl, h0, h1⟩ := trod_struct2 Tryz.underlying38 h
 dsimp only at h0 h1
 rw [cellsOf_Id] at hl
 rw [cellsOf_Digest] at h0
 rw [cellsOf_int] at h1
 obtain ⟨d, hd, hdl, hdb⟩ := read_digest h0
 obtain ⟨n, hn, _, hw⟩ := DataW.trod_int Tryz.underlying3 h1
 refine ⟨d, n, ?_, hdl, hdb, wf_i64 hw⟩
 rw [← hd, ← hn, List.drop_zero]
 rw [show cs.take 32 ++ (cs.drop 32).take 1 = cs.take 33 from (List.take_add (i := 32) (j := 1)).symm]
 exact (List.take_of_length_le (by omega)).symm
theorem read_vertex {fuel : Nat} {cs : List Value} {x : DataW H × List MemPlace} (h : DataW.trod enc Tryz.prog w base spare held fuel 40 cs = some x) : ∃ v : Vtx, cs = v.cells ∧ v.ok ∧ v.text.size ≤ maxLen := by
 obtain ⟨y0, y1, y2, m, _, hl, h0, h1, h2⟩ := trod_struct3 Tryz.underlying40 h
 dsimp only at h0 h1 h2
 rw [cellsOf_Vertex] at hl
 rw [cellsOf_Id] at h0
 rw [cellsOf_string] at h1
 rw [cellsOf_bool] at h2
 obtain ⟨d, n, hd, hdl, hdb, hn⟩ := read_id h0
 obtain ⟨s, hs, _, hsl⟩ := DataW.trod_string Tryz.underlying9 h1
 obtain ⟨b, hb, _⟩ := DataW.trod_bool Tryz.underlying4 h2
 refine ⟨⟨d, n, s, b⟩, ?_, ⟨hdl, hdb, hn.1, hn.2⟩, hsl⟩
 unfold Vtx.cells
 dsimp only
 rw [show d.map (Value.int .u8) ++ [Value.int .i64 n, Value.string s, Value.bool b] = (d.map (Value.int .u8) ++ [Value.int .i64 n]) ++ [Value.string s] ++ [Value.bool b] by simp, ← hd, ← hs, ← hb, List.drop_zero]
 rw [show cs.take 33 ++ (cs.drop 33).take 1 = cs.take 34 from (List.take_add (i := 33) (j := 1)).symm, show cs.take 34 ++ (cs.drop 34).take 1 = cs.take 35 from (List.take_add (i := 34) (j := 1)).symm]
 exact (List.take_of_length_le (by omega)).symm
theorem read_edge {fuel : Nat} {cs : List Value} {x : DataW H × List MemPlace} (h : DataW.trod enc Tryz.prog w base spare held fuel 74 cs = some x) : ∃ e : Int × Int, cs = edgeCells e ∧ I64 e.1 ∧ I64 e.2 := by
 obtain ⟨y0, y1, m, _, hl, h0, h1⟩ := trod_struct2 Tryz.underlying74 h
 dsimp only at h0 h1
 rw [cellsOf_Edge] at hl
 rw [cellsOf_int] at h0 h1
 obtain ⟨a, ha, _, hwa⟩ := DataW.trod_int Tryz.underlying3 h0
 obtain ⟨b, hb, _, hwb⟩ := DataW.trod_int Tryz.underlying3 h1
 refine ⟨(a, b), ?_, wf_i64 hwa, wf_i64 hwb⟩
 unfold edgeCells
 rw [show [Value.int .i64 (a, b).1, Value.int .i64 (a, b).2] = [Value.int .i64 a] ++ [Value.int .i64 b] from rfl, ← ha, ← hb, List.drop_zero, show cs.take 1 ++ (cs.drop 1).take 1 = cs.take 2 from (List.take_add (i := 1) (j := 1)).symm]
 exact (List.take_of_length_le (by omega)).symm
theorem read_slice {α : Type} [Inhabited α] {t e : TypeId} {size fuel : Nat} {cs : List Value} {x : DataW H × List MemPlace} (ht : Tryz.prog.underlying t = some (.slice e)) (hC : Tryz.prog.cellsOf e = size) (hs : 0 < size) (enc' : α → List Value) (ok : α → Prop)
   (hel : ∀ (m : Nat) (c : List Value) (y : DataW H × List MemPlace), DataW.trod enc Tryz.prog w base spare held m e c = some y → ∃ v : α, c = enc' v ∧ ok v)
   (h : DataW.trod enc Tryz.prog w base spare held fuel t cs = some x) : ∃ (v : Value) (xs : List α), cs = [v] ∧ SlN w v size (xs.map enc') ∧ ∀ a ∈ xs, ok a := by
 rcases open_slice ht h with ⟨rfl, _⟩ | ⟨a, len, cap, m, n, D, Pl, rfl, hb, hl, hm, hmm, _, hi⟩
 · exact ⟨_, [], rfl, ⟨none, 0, rfl, Nat.le_refl _, by omega, fun h => absurd rfl h⟩, by simp⟩
 · have hlm : len ≤ m := by rw [hmm]; split <;> omega
   rw [hC] at hi
   obtain ⟨f, hf⟩ := choose_lt (n := len) (p := fun i (v : α) => ok v ∧ w.cells? base (a.add (i * size)) size = some (enc' v)) fun i hil => by
     obtain ⟨c, hc, ht2⟩ := hi i (by omega)
     obtain ⟨v, rfl, hv⟩ := hel n c _ ht2
     exact ⟨v, hv, hc⟩
   refine ⟨_, (List.range len).map f, rfl, ⟨some a, cap, by simp, by simpa using hl, by unfold maxLen at hm; omega, fun hne => ?_⟩, fun y hy => ?_⟩
   · have hpos : 0 < len := by
       rcases Nat.eq_zero_or_pos len with h0 | h0
       · subst h0; exact absurd rfl hne
       · exact h0
     have hsp : a.spot = none := by
       obtain ⟨_, h1, h2⟩ := World.cells?_some (hf 0 hpos).2
       have h3 := h2 0 hs
       rw [List.getElem?_eq_getElem (by omega)] at h3
       have := World.cell?_spot h3
       simpa [Addr.add] using this
     obtain ⟨b, off, sp⟩ := a
     simp only at hsp
     subst hsp
     refine ⟨b, off, rfl, fun i u hu => ?_⟩
     rw [List.map_map, List.getElem?_map] at hu
     obtain ⟨i', hi', rfl⟩ := Option.map_eq_some_iff.1 hu
     obtain ⟨hil, rfl⟩ := List.getElem?_eq_some_iff.1 hi'
     simp only [List.length_range] at hil
     simp only [List.getElem_range, Function.comp]
     obtain ⟨_, h1, h2⟩ := World.cells?_some (hf i hil).2
     intro j v hv
     have hj : j < size := by rw [← h1]; exact (List.getElem?_eq_some_iff.1 hv).1
     have := h2 j hj
     rw [hv] at this
     rw [← this]
     have e : ((⟨b, off, none⟩ : Addr).add (i * size)).add j = ⟨b, off + i * size + j, none⟩ := by
       rw [Addr.add_mid, Addr.add_mid]
     rw [e]
   · obtain ⟨i, hi, rfl⟩ := List.mem_map.1 hy
     exact (hf i (List.mem_range.1 hi)).1
set_option maxRecDepth 100000 in
theorem graph_open {r : Reach} {b0 : Nat} {v : Value} {d : DataW H} {p : List MemPlace} (hv : Value.okWide Tryz.prog w r b0 25 v) (h : DataW.Trod enc Tryz.prog w base spare held 25 v d p) :
   ∃ (vl ve : Value) (g : Gr), v = .agg #[vl, ve] ∧ GrIn w vl ve g := by
 obtain ⟨c0, c1, y0, y1, n, rfl, _, _, h0, h1⟩ := open_agg2 Tryz.underlying25 (by kernel_rfl) (by kernel_rfl) hv h
 dsimp only at h0 h1
 obtain ⟨vl, lines, hl1, hl2, hl3⟩ := read_slice (α := Vtx) Tryz.underlying22 cellsOf_Vertex (by decide) Vtx.cells (fun v => v.ok ∧ v.text.size ≤ maxLen) (fun m c y hy => read_vertex hy) h0
 obtain ⟨ve, edges, he1, he2, he3⟩ := read_slice (α := Int × Int) Tryz.underlying23 cellsOf_Edge (by decide) edgeCells (fun e => I64 e.1 ∧ I64 e.2) (fun m c y hy => read_edge hy) h1
 obtain rfl := (List.singleton_inj.1 hl1)
 obtain rfl := (List.singleton_inj.1 he1)
 exact ⟨c0, c1, ⟨lines, edges⟩, rfl, hl2, he2, fun x hx => (hl3 x hx).1, he3, fun x hx => by have := (hl3 x hx).2; unfold maxLen at this; omega⟩
end
end Go.Proofs.Lg

namespace Go.Ab
open Go Go.RowKit
inductive D where
 | sc (v : Value)
 | agg (cs : List D)
 | sl (sz : Nat) (rows : List (List D))
 | ref (cs : List D)
 | tup (vs : List D)
 deriving Inhabited
inductive RD (I : Nat → Nat) (w : World) : Value → D → Prop
 | sc (v : Value) : RD I w v (.sc v)
 | agg (us : List Value) (ds : List D) : us.length = ds.length → (∀ u ∈ us, u.oneCell' = true) → (∀ (i : Nat) (u : Value) (d : D), us[i]? = some u → ds[i]? = some d → RD I w u d) → RD I w (.agg us.toArray) (.agg ds)
 | sl (a : Option Addr) (n c sz : Nat) (us : List Value) (rows : List (List D)) : rows.length = n → (∀ r ∈ rows, r.length = sz) → n ≤ c → c ≤ 9223372036854775807 → us.length = rows.flatten.length →
     (∀ u ∈ us, u.oneCell' = true) → (rows ≠ [] → ∃ b off, a = some ⟨b, off, none⟩ ∧ ∀ i u, us[i]? = some u → off + i < I b ∧ w.cell? ⟨b, off + i, none⟩ = some u) →
     (∀ (i : Nat) (u : Value) (d : D), us[i]? = some u → rows.flatten[i]? = some d → RD I w u d) → RD I w (.slice a n c) (.sl sz rows)
 | ref (b off : Nat) (us : List Value) (ds : List D) : us.length = ds.length → (∀ u ∈ us, u.oneCell' = true) → (∀ i u, us[i]? = some u → off + i < I b ∧ w.cell? ⟨b, off + i, none⟩ = some u) →
     (∀ (i : Nat) (u : Value) (d : D), us[i]? = some u → ds[i]? = some d → RD I w u d) → RD I w (.pointer (some ⟨b, off, none⟩)) (.ref ds)
 | tup (us : List Value) (ds : List D) : us.length = ds.length → (∀ (i : Nat) (u : Value) (d : D), us[i]? = some u → ds[i]? = some d → RD I w u d) → RD I w (.tuple us.toArray) (.tup ds)
def KeepI (I : Nat → Nat) (w : World) (I' : Nat → Nat) (w' : World) : Prop :=
 ∀ b o u, o < I b → w.cell? ⟨b, o, none⟩ = some u → o < I' b ∧ w'.cell? ⟨b, o, none⟩ = some u
theorem KeepI.refl (I : Nat → Nat) (w : World) : KeepI I w I w := fun _ _ _ h hc => ⟨h, hc⟩
theorem KeepI.trans {I I' I'' : Nat → Nat} {w w' w'' : World} (h : KeepI I w I' w') (k : KeepI I' w' I'' w'') : KeepI I w I'' w'' :=
 fun b o u ho hc => let ⟨h1, h2⟩ := h b o u ho hc; k b o u h1 h2
theorem RD.mono {I I' : Nat → Nat} {w w' : World} {v : Value} {d : D} (h : RD I w v d) (hk : KeepI I w I' w') : RD I' w' v d := by
 induction h with
 | sc v => exact .sc v
 | agg us ds h1 h2 _ ih => exact .agg us ds h1 h2 ih
 | sl a n c sz us rows h1 h2 h3 h4 h5 h6 h7 _ ih =>
   refine .sl a n c sz us rows h1 h2 h3 h4 h5 h6 (fun hr => ?_) ih
   obtain ⟨b, off, ha, hc⟩ := h7 hr
   exact ⟨b, off, ha, fun i u hu => let ⟨k1, k2⟩ := hc i u hu; hk _ _ _ k1 k2⟩
 | ref b off us ds h1 h2 h3 _ ih => exact .ref b off us ds h1 h2 (fun i u hu => let ⟨k1, k2⟩ := h3 i u hu; hk _ _ _ k1 k2) ih
 | tup us ds h1 _ ih => exact .tup us ds h1 ih
def D.leaf : D → Bool
 | .sc v => v.oneCell'
 | .sl _ _ | .ref _ => true
 | .agg _ | .tup _ => false
theorem RD.leaf {I : Nat → Nat} {w : World} {v : Value} {d : D} (h : RD I w v d) (hl : d.leaf = true) : v.oneCell' = true := by
 cases h <;> first | exact hl | rfl | cases hl
def RDs (I : Nat → Nat) (w : World) (us : List Value) (ds : List D) : Prop :=
 us.length = ds.length ∧ (∀ u ∈ us, u.oneCell' = true) ∧ ∀ (i : Nat) (u : Value) (d : D), us[i]? = some u → ds[i]? = some d → RD I w u d
theorem RDs.mono {I I' : Nat → Nat} {w w' : World} {us : List Value} {ds : List D} (h : RDs I w us ds) (hk : KeepI I w I' w') : RDs I' w' us ds :=
 ⟨h.1, h.2.1, fun i u d hu hd => (h.2.2 i u d hu hd).mono hk⟩
theorem RDs.append {I : Nat → Nat} {w : World} {us us' : List Value} {ds ds' : List D} (h : RDs I w us ds) (k : RDs I w us' ds') : RDs I w (us ++ us') (ds ++ ds') := by
 refine ⟨by simp [h.1, k.1], fun u hu => ?_, fun i u d hu hd => ?_⟩
 · rcases List.mem_append.1 hu with hu | hu
   · exact h.2.1 u hu
   · exact k.2.1 u hu
 · rw [List.getElem?_append] at hu hd
   rw [h.1] at hu
   split at hu
   · rename_i hlt; rw [if_pos hlt] at hd; exact h.2.2 i u d hu hd
   · rename_i hlt; rw [if_neg hlt] at hd; exact k.2.2 _ u d hu hd
theorem RDs.take {I : Nat → Nat} {w : World} {us : List Value} {ds : List D} (h : RDs I w us ds) (n : Nat) : RDs I w (us.take n) (ds.take n) := by
 refine ⟨by simp [h.1], fun u hu => h.2.1 u (List.mem_of_mem_take hu), fun i u d hu hd => ?_⟩
 rw [List.getElem?_take] at hu hd
 split at hu
 · rename_i hlt; rw [if_pos hlt] at hd; exact h.2.2 i u d hu hd
 · cases hu
theorem RDs.drop {I : Nat → Nat} {w : World} {us : List Value} {ds : List D} (h : RDs I w us ds) (n : Nat) : RDs I w (us.drop n) (ds.drop n) := by
 refine ⟨by simp [h.1], fun u hu => h.2.1 u (List.mem_of_mem_drop hu), fun i u d hu hd => ?_⟩
 rw [List.getElem?_drop] at hu hd
 exact h.2.2 _ u d hu hd
theorem RDs.get {I : Nat → Nat} {w : World} {us : List Value} {ds : List D} (h : RDs I w us ds) {i : Nat} {d : D} (hd : ds[i]? = some d) : ∃ u, us[i]? = some u ∧ RD I w u d := by
 have hi := (List.getElem?_eq_some_iff.1 hd).1
 have : i < us.length := by rw [h.1]; exact hi
 exact ⟨us[i], List.getElem?_eq_getElem this, h.2.2 i _ d (List.getElem?_eq_getElem this) hd⟩
theorem RDs.one {I : Nat → Nat} {w : World} {u : Value} {d : D} (h : RD I w u d) (hl : d.leaf = true) : RDs I w [u] [d] := by
 refine ⟨rfl, fun x hx => ?_, fun i x y hx hy => ?_⟩
 · obtain rfl := List.mem_singleton.1 hx; exact h.leaf hl
 · cases i with
   | zero => simp at hx hy; subst hx; subst hy; exact h
   | succ i => simp at hx
theorem RDs.set {I : Nat → Nat} {w : World} {us : List Value} {ds : List D} (h : RDs I w us ds) {u : Value} {d : D} (k : RD I w u d) (hl : u.oneCell' = true) (i : Nat) : RDs I w (us.set i u) (ds.set i d) := by
 refine ⟨by simp [h.1], fun x hx => ?_, fun j x y hx hy => ?_⟩
 · rcases List.mem_or_eq_of_mem_set hx with hx | hx
   · exact h.2.1 x hx
   · subst hx; exact hl
 · rw [List.getElem?_set] at hx hy
   split at hx
   · rename_i e
     rw [if_pos e] at hy
     split at hx
     · split at hy
       · obtain rfl := Option.some.inj hx; obtain rfl := Option.some.inj hy; exact k
       · cases hy
     · cases hx
   · rename_i e; rw [if_neg e] at hy; exact h.2.2 j x y hx hy
theorem flatten_row {α : Type} {sz : Nat} : ∀ (rows : List (List α)), (∀ r ∈ rows, r.length = sz) → ∀ (i : Nat) (r : List α), rows[i]? = some r → (rows.flatten.drop (i * sz)).take sz = r
 | [], _, i, r, h => by simp at h
 | x :: rows, hl, 0, r, h => by
   simp at h; subst h
   have := hl x (by simp)
   simp [← this]
 | x :: rows, hl, i + 1, r, h => by
   have hx := hl x (by simp)
   have := flatten_row rows (fun r hr => hl r (by simp [hr])) i r (by simpa using h)
   rw [List.flatten_cons, Nat.add_mul, Nat.one_mul, List.drop_append, List.drop_eq_nil_of_le (by omega), List.nil_append]
   rw [show i * sz + sz - x.length = i * sz by omega]
   exact this
theorem flatten_len {α : Type} {sz : Nat} : ∀ (rows : List (List α)), (∀ r ∈ rows, r.length = sz) → rows.flatten.length = rows.length * sz
 | [], _ => by simp
 | x :: rows, hl => by
   have hx := hl x (by simp)
   have := flatten_len rows fun r hr => hl r (by simp [hr])
   simp [this, hx, Nat.add_mul]; omega
theorem flatten_take {α : Type} {sz : Nat} : ∀ (rows : List (List α)), (∀ r ∈ rows, r.length = sz) → ∀ k, (rows.take k).flatten = rows.flatten.take (k * sz)
 | [], _, k => by simp
 | x :: rows, hl, 0 => by simp
 | x :: rows, hl, k + 1 => by
   have hx := hl x (by simp)
   have := flatten_take rows (fun r hr => hl r (by simp [hr])) k
   rw [List.take_succ_cons, List.flatten_cons, List.flatten_cons, this, Nat.add_mul, Nat.one_mul, List.take_append, List.take_of_length_le (l := x) (by omega)]
   rw [show k * sz + sz - x.length = k * sz by omega]
theorem flatten_drop {α : Type} {sz : Nat} : ∀ (rows : List (List α)), (∀ r ∈ rows, r.length = sz) → ∀ k, (rows.drop k).flatten = rows.flatten.drop (k * sz)
 | [], _, k => by simp
 | x :: rows, hl, 0 => by simp
 | x :: rows, hl, k + 1 => by
   have hx := hl x (by simp)
   have := flatten_drop rows (fun r hr => hl r (by simp [hr])) k
   rw [List.drop_succ_cons, List.flatten_cons, this, Nat.add_mul, Nat.one_mul, List.drop_append, @List.drop_eq_nil_of_le _ x (k * sz + sz) (by omega), List.nil_append]
   rw [show k * sz + sz - x.length = k * sz by omega]
theorem RD.sl_inv {I : Nat → Nat} {w : World} {v : Value} {sz : Nat} {rows : List (List D)} (h : RD I w v (.sl sz rows)) :
   ∃ a c us, v = .slice a rows.length c ∧ (∀ r ∈ rows, r.length = sz) ∧ rows.length ≤ c ∧ c ≤ 9223372036854775807 ∧ RDs I w us rows.flatten ∧
     (rows ≠ [] → ∃ b off, a = some ⟨b, off, none⟩ ∧ ∀ i u, us[i]? = some u → off + i < I b ∧ w.cell? ⟨b, off + i, none⟩ = some u) := by
 cases h with
 | sl a n c sz us rows h1 h2 h3 h4 h5 h6 h7 h8 => subst h1; exact ⟨a, c, us, rfl, h2, h3, h4, ⟨h5, h6, h8⟩, h7⟩
theorem RD.sl_mk {I : Nat → Nat} {w : World} {a : Option Addr} {n c sz : Nat} {us : List Value} {rows : List (List D)} (h1 : rows.length = n) (h2 : ∀ r ∈ rows, r.length = sz) (h3 : n ≤ c) (h4 : c ≤ 9223372036854775807) (h5 : RDs I w us rows.flatten)
   (h6 : rows ≠ [] → ∃ b off, a = some ⟨b, off, none⟩ ∧ ∀ i u, us[i]? = some u → off + i < I b ∧ w.cell? ⟨b, off + i, none⟩ = some u) : RD I w (.slice a n c) (.sl sz rows) :=
 .sl a n c sz us rows h1 h2 h3 h4 h5.1 h5.2.1 h6 h5.2.2
theorem RD.sl_at {I : Nat → Nat} {w : World} {v : Value} {sz : Nat} {rows : List (List D)} (h : RD I w v (.sl sz rows)) {i : Nat} {r : List D} (hr : rows[i]? = some r) :
   ∃ b off c, v = .slice (some ⟨b, off, none⟩) rows.length c ∧ RD I w (.pointer (some ⟨b, off + i * sz, none⟩)) (.ref r) := by
 obtain ⟨a, c, us, rfl, h2, h3, h4, h5, h6⟩ := h.sl_inv
 obtain ⟨b, off, rfl, hc⟩ := h6 (by intro e; subst e; simp at hr)
 refine ⟨b, off, c, rfl, ?_⟩
 have hrow := flatten_row rows h2 i r hr
 have h7 := (h5.drop (i * sz)).take sz
 rw [hrow] at h7
 refine .ref _ _ _ _ h7.1 h7.2.1 (fun j u hu => ?_) h7.2.2
 rw [List.getElem?_take] at hu
 split at hu
 · rw [List.getElem?_drop] at hu
   rw [Nat.add_assoc]
   exact hc _ u hu
 · cases hu
theorem RD.sl_part {I : Nat → Nat} {w : World} {a : Option Addr} {n c sz : Nat} {rows : List (List D)} (h : RD I w (.slice a n c) (.sl sz rows)) {lo hi : Nat} (h1 : lo ≤ hi) (h2 : hi ≤ rows.length) :
   RD I w (.slice (if c = lo then a else a.map (·.add (lo * sz))) (hi - lo) (c - lo)) (.sl sz ((rows.take hi).drop lo)) := by
 obtain ⟨a', c', us, hv, k2, k3, k4, k5, k6⟩ := h.sl_inv
 cases hv
 have hl2 : ∀ r ∈ rows.take hi, r.length = sz := fun r hr => k2 r (List.mem_of_mem_take hr)
 have hf : ((rows.take hi).drop lo).flatten = (rows.flatten.take (hi * sz)).drop (lo * sz) := by rw [flatten_drop _ hl2, flatten_take _ k2]
 have h5 := (k5.take (hi * sz)).drop (lo * sz)
 rw [← hf] at h5
 refine RD.sl_mk (by simp; omega) (fun r hr => hl2 r (List.mem_of_mem_drop hr)) (by omega) (by omega) h5 fun hne => ?_
 have hlt : lo < hi := by
   rcases Nat.lt_or_ge lo hi with h | h
   · exact h
   · exact absurd (by apply List.drop_eq_nil_of_le; simp; omega) hne
 obtain ⟨b, off, rfl, hc⟩ := k6 (by intro e; subst e; simp at h2; omega)
 rw [if_neg (by omega)]
 refine ⟨b, off + lo * sz, ?_, fun i u hu => ?_⟩
 · simp only [Option.map_some]; unfold Addr.add; split <;> simp_all
 · rw [List.getElem?_drop, List.getElem?_take] at hu
   split at hu
   · rw [Nat.add_assoc]; exact hc _ u hu
   · cases hu
end Go.Ab
