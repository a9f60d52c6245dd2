/-
  Part Ab1 of this claim's proof. Joined by merge.py from the texts of wip/tpl.
-/
import Derived.Test.YtclholnhkhjjaaaGreatOwn
set_option linter.unusedVariables false
set_option linter.unusedSimpArgs false
set_option linter.unnecessarySimpa false
namespace Go.Ab
open Go Go.RowKit

/-- Data: a value that reads alike in every memory; a struct or an array, cell by cell; a slice, its elements cell by cell; a pointer to cells that are never written again; several results. -/
inductive D where
  | sc (v : Value)
  | agg (cs : List D)
  | sl (sz : Nat) (rows : List (List D))
  | ref (cs : List D)
  | tup (vs : List D)
  deriving Inhabited

/-- The value v in memory w stands for this data. -/
inductive RD (I : Nat → Nat) (w : World) : Value → D → Prop
  | sc (v : Value) : RD I w v (.sc v)
  | agg (us : List Value) (ds : List D) : us.length = ds.length → (∀ u ∈ us, u.oneCell' = true) → (∀ (i : Nat) (u : Value) (d : D), us[i]? = some u → ds[i]? = some d → RD I w u d) → RD I w (.agg us.toArray) (.agg ds)
  | sl (a : Option Addr) (n c sz : Nat) (us : List Value) (rows : List (List D)) : rows.length = n → (∀ r ∈ rows, r.length = sz) → n ≤ c → c ≤ 9223372036854775807 → us.length = rows.flatten.length →
      (∀ u ∈ us, u.oneCell' = true) → (rows ≠ [] → ∃ b off, a = some ⟨b, off, none⟩ ∧ ∀ i u, us[i]? = some u → off + i < I b ∧ w.cell? ⟨b, off + i, none⟩ = some u) →
      (∀ (i : Nat) (u : Value) (d : D), us[i]? = some u → rows.flatten[i]? = some d → RD I w u d) → RD I w (.slice a n c) (.sl sz rows)
  | ref (b off : Nat) (us : List Value) (ds : List D) : us.length = ds.length → (∀ u ∈ us, u.oneCell' = true) → (∀ i u, us[i]? = some u → off + i < I b ∧ w.cell? ⟨b, off + i, none⟩ = some u) →
      (∀ (i : Nat) (u : Value) (d : D), us[i]? = some u → ds[i]? = some d → RD I w u d) → RD I w (.pointer (some ⟨b, off, none⟩)) (.ref ds)
  | tup (us : List Value) (ds : List D) : us.length = ds.length → (∀ (i : Nat) (u : Value) (d : D), us[i]? = some u → ds[i]? = some d → RD I w u d) → RD I w (.tuple us.toArray) (.tup ds)

/-- What was never to be written again is as it was, and stays so. -/
def KeepI (I : Nat → Nat) (w : World) (I' : Nat → Nat) (w' : World) : Prop :=
  ∀ b o u, o < I b → w.cell? ⟨b, o, none⟩ = some u → o < I' b ∧ w'.cell? ⟨b, o, none⟩ = some u

theorem KeepI.refl (I : Nat → Nat) (w : World) : KeepI I w I w := fun _ _ _ h hc => ⟨h, hc⟩
theorem KeepI.trans {I I' I'' : Nat → Nat} {w w' w'' : World} (h : KeepI I w I' w') (k : KeepI I' w' I'' w'') : KeepI I w I'' w'' :=
  fun b o u ho hc => let ⟨h1, h2⟩ := h b o u ho hc; k b o u h1 h2

theorem RD.mono {I I' : Nat → Nat} {w w' : World} {v : Value} {d : D} (h : RD I w v d) (hk : KeepI I w I' w') : RD I' w' v d := by
  induction h with
  | sc v => exact .sc v
  | agg us ds h1 h2 _ ih => exact .agg us ds h1 h2 ih
  | sl a n c sz us rows h1 h2 h3 h4 h5 h6 h7 _ ih =>
    refine .sl a n c sz us rows h1 h2 h3 h4 h5 h6 (fun hr => ?_) ih
    obtain ⟨b, off, ha, hc⟩ := h7 hr
    exact ⟨b, off, ha, fun i u hu => let ⟨k1, k2⟩ := hc i u hu; hk _ _ _ k1 k2⟩
  | ref b off us ds h1 h2 h3 _ ih => exact .ref b off us ds h1 h2 (fun i u hu => let ⟨k1, k2⟩ := h3 i u hu; hk _ _ _ k1 k2) ih
  | tup us ds h1 _ ih => exact .tup us ds h1 ih

/-- One cell's data. -/
def D.leaf : D → Bool
  | .sc v => v.oneCell'
  | .sl _ _ | .ref _ => true
  | .agg _ | .tup _ => false

theorem RD.leaf {I : Nat → Nat} {w : World} {v : Value} {d : D} (h : RD I w v d) (hl : d.leaf = true) : v.oneCell' = true := by
  cases h <;> first | exact hl | rfl | cases hl

/-- Cells in a row. -/
def RDs (I : Nat → Nat) (w : World) (us : List Value) (ds : List D) : Prop :=
  us.length = ds.length ∧ (∀ u ∈ us, u.oneCell' = true) ∧ ∀ (i : Nat) (u : Value) (d : D), us[i]? = some u → ds[i]? = some d → RD I w u d

theorem RDs.mono {I I' : Nat → Nat} {w w' : World} {us : List Value} {ds : List D} (h : RDs I w us ds) (hk : KeepI I w I' w') : RDs I' w' us ds :=
  ⟨h.1, h.2.1, fun i u d hu hd => (h.2.2 i u d hu hd).mono hk⟩

theorem RDs.append {I : Nat → Nat} {w : World} {us us' : List Value} {ds ds' : List D} (h : RDs I w us ds) (k : RDs I w us' ds') : RDs I w (us ++ us') (ds ++ ds') := by
  refine ⟨by simp [h.1, k.1], fun u hu => ?_, fun i u d hu hd => ?_⟩
  · rcases List.mem_append.1 hu with hu | hu
    · exact h.2.1 u hu
    · exact k.2.1 u hu
  · rw [List.getElem?_append] at hu hd
    rw [h.1] at hu
    split at hu
    · rename_i hlt; rw [if_pos hlt] at hd; exact h.2.2 i u d hu hd
    · rename_i hlt; rw [if_neg hlt] at hd; exact k.2.2 _ u d hu hd

theorem RDs.take {I : Nat → Nat} {w : World} {us : List Value} {ds : List D} (h : RDs I w us ds) (n : Nat) : RDs I w (us.take n) (ds.take n) := by
  refine ⟨by simp [h.1], fun u hu => h.2.1 u (List.mem_of_mem_take hu), fun i u d hu hd => ?_⟩
  rw [List.getElem?_take] at hu hd
  split at hu
  · rename_i hlt; rw [if_pos hlt] at hd; exact h.2.2 i u d hu hd
  · cases hu

theorem RDs.drop {I : Nat → Nat} {w : World} {us : List Value} {ds : List D} (h : RDs I w us ds) (n : Nat) : RDs I w (us.drop n) (ds.drop n) := by
  refine ⟨by simp [h.1], fun u hu => h.2.1 u (List.mem_of_mem_drop hu), fun i u d hu hd => ?_⟩
  rw [List.getElem?_drop] at hu hd
  exact h.2.2 _ u d hu hd

theorem RDs.get {I : Nat → Nat} {w : World} {us : List Value} {ds : List D} (h : RDs I w us ds) {i : Nat} {d : D} (hd : ds[i]? = some d) : ∃ u, us[i]? = some u ∧ RD I w u d := by
  have hi := (List.getElem?_eq_some_iff.1 hd).1
  have : i < us.length := by rw [h.1]; exact hi
  exact ⟨us[i], List.getElem?_eq_getElem this, h.2.2 i _ d (List.getElem?_eq_getElem this) hd⟩

theorem RDs.one {I : Nat → Nat} {w : World} {u : Value} {d : D} (h : RD I w u d) (hl : d.leaf = true) : RDs I w [u] [d] := by
  refine ⟨rfl, fun x hx => ?_, fun i x y hx hy => ?_⟩
  · obtain rfl := List.mem_singleton.1 hx; exact h.leaf hl
  · cases i with
    | zero => simp at hx hy; subst hx; subst hy; exact h
    | succ i => simp at hx

theorem RDs.set {I : Nat → Nat} {w : World} {us : List Value} {ds : List D} (h : RDs I w us ds) {u : Value} {d : D} (k : RD I w u d) (hl : u.oneCell' = true) (i : Nat) : RDs I w (us.set i u) (ds.set i d) := by
  refine ⟨by simp [h.1], fun x hx => ?_, fun j x y hx hy => ?_⟩
  · rcases List.mem_or_eq_of_mem_set hx with hx | hx
    · exact h.2.1 x hx
    · subst hx; exact hl
  · rw [List.getElem?_set] at hx hy
    split at hx
    · rename_i e
      rw [if_pos e] at hy
      split at hx
      · split at hy
        · obtain rfl := Option.some.inj hx; obtain rfl := Option.some.inj hy; exact k
        · cases hy
      · cases hx
    · rename_i e; rw [if_neg e] at hy; exact h.2.2 j x y hx hy

/-- The cells of an element of a row of rows. -/
theorem flatten_row {α : Type} {sz : Nat} : ∀ (rows : List (List α)), (∀ r ∈ rows, r.length = sz) → ∀ (i : Nat) (r : List α), rows[i]? = some r → (rows.flatten.drop (i * sz)).take sz = r
  | [], _, i, r, h => by simp at h
  | x :: rows, hl, 0, r, h => by
    simp at h; subst h
    have := hl x (by simp)
    simp [← this]
  | x :: rows, hl, i + 1, r, h => by
    have hx := hl x (by simp)
    have := flatten_row rows (fun r hr => hl r (by simp [hr])) i r (by simpa using h)
    rw [List.flatten_cons, Nat.add_mul, Nat.one_mul, List.drop_append, List.drop_eq_nil_of_le (by omega), List.nil_append]
    rw [show i * sz + sz - x.length = i * sz by omega]
    exact this

theorem flatten_len {α : Type} {sz : Nat} : ∀ (rows : List (List α)), (∀ r ∈ rows, r.length = sz) → rows.flatten.length = rows.length * sz
  | [], _ => by simp
  | x :: rows, hl => by
    have hx := hl x (by simp)
    have := flatten_len rows fun r hr => hl r (by simp [hr])
    simp [this, hx, Nat.add_mul]; omega

theorem flatten_take {α : Type} {sz : Nat} : ∀ (rows : List (List α)), (∀ r ∈ rows, r.length = sz) → ∀ k, (rows.take k).flatten = rows.flatten.take (k * sz)
  | [], _, k => by simp
  | x :: rows, hl, 0 => by simp
  | x :: rows, hl, k + 1 => by
    have hx := hl x (by simp)
    have := flatten_take rows (fun r hr => hl r (by simp [hr])) k
    rw [List.take_succ_cons, List.flatten_cons, List.flatten_cons, this, Nat.add_mul, Nat.one_mul, List.take_append, List.take_of_length_le (l := x) (by omega)]
    rw [show k * sz + sz - x.length = k * sz by omega]

theorem flatten_drop {α : Type} {sz : Nat} : ∀ (rows : List (List α)), (∀ r ∈ rows, r.length = sz) → ∀ k, (rows.drop k).flatten = rows.flatten.drop (k * sz)
  | [], _, k => by simp
  | x :: rows, hl, 0 => by simp
  | x :: rows, hl, k + 1 => by
    have hx := hl x (by simp)
    have := flatten_drop rows (fun r hr => hl r (by simp [hr])) k
    rw [List.drop_succ_cons, List.flatten_cons, this, Nat.add_mul, Nat.one_mul, List.drop_append, List.drop_eq_nil_of_le (as := x) (by omega), List.nil_append]
    rw [show k * sz + sz - x.length = k * sz by omega]

/-- What a slice's data say of the value. -/
theorem RD.sl_inv {I : Nat → Nat} {w : World} {v : Value} {sz : Nat} {rows : List (List D)} (h : RD I w v (.sl sz rows)) :
    ∃ a c us, v = .slice a rows.length c ∧ (∀ r ∈ rows, r.length = sz) ∧ rows.length ≤ c ∧ c ≤ 9223372036854775807 ∧ RDs I w us rows.flatten ∧
      (rows ≠ [] → ∃ b off, a = some ⟨b, off, none⟩ ∧ ∀ i u, us[i]? = some u → off + i < I b ∧ w.cell? ⟨b, off + i, none⟩ = some u) := by
  cases h with
  | sl a n c sz us rows h1 h2 h3 h4 h5 h6 h7 h8 => subst h1; exact ⟨a, c, us, rfl, h2, h3, h4, ⟨h5, h6, h8⟩, h7⟩

theorem RD.sl_mk {I : Nat → Nat} {w : World} {a : Option Addr} {n c sz : Nat} {us : List Value} {rows : List (List D)} (h1 : rows.length = n) (h2 : ∀ r ∈ rows, r.length = sz) (h3 : n ≤ c) (h4 : c ≤ 9223372036854775807) (h5 : RDs I w us rows.flatten)
    (h6 : rows ≠ [] → ∃ b off, a = some ⟨b, off, none⟩ ∧ ∀ i u, us[i]? = some u → off + i < I b ∧ w.cell? ⟨b, off + i, none⟩ = some u) : RD I w (.slice a n c) (.sl sz rows) :=
  .sl a n c sz us rows h1 h2 h3 h4 h5.1 h5.2.1 h6 h5.2.2

/-- The address of an element. -/
theorem RD.sl_at {I : Nat → Nat} {w : World} {v : Value} {sz : Nat} {rows : List (List D)} (h : RD I w v (.sl sz rows)) {i : Nat} {r : List D} (hr : rows[i]? = some r) :
    ∃ b off c, v = .slice (some ⟨b, off, none⟩) rows.length c ∧ RD I w (.pointer (some ⟨b, off + i * sz, none⟩)) (.ref r) := by
  obtain ⟨a, c, us, rfl, h2, h3, h4, h5, h6⟩ := h.sl_inv
  obtain ⟨b, off, rfl, hc⟩ := h6 (by intro e; subst e; simp at hr)
  refine ⟨b, off, c, rfl, ?_⟩
  have hrow := flatten_row rows h2 i r hr
  have h7 := (h5.drop (i * sz)).take sz
  rw [hrow] at h7
  refine .ref _ _ _ _ h7.1 h7.2.1 (fun j u hu => ?_) h7.2.2
  rw [List.getElem?_take] at hu
  split at hu
  · rw [List.getElem?_drop] at hu
    rw [Nat.add_assoc]
    exact hc _ u hu
  · cases hu

/-- A part of a slice. -/
theorem RD.sl_part {I : Nat → Nat} {w : World} {a : Option Addr} {n c sz : Nat} {rows : List (List D)} (h : RD I w (.slice a n c) (.sl sz rows)) {lo hi : Nat} (h1 : lo ≤ hi) (h2 : hi ≤ rows.length) :
    RD I w (.slice (if c = lo then a else a.map (·.add (lo * sz))) (hi - lo) (c - lo)) (.sl sz ((rows.take hi).drop lo)) := by
  obtain ⟨a', c', us, hv, k2, k3, k4, k5, k6⟩ := h.sl_inv
  cases hv
  have hl2 : ∀ r ∈ rows.take hi, r.length = sz := fun r hr => k2 r (List.mem_of_mem_take hr)
  have hf : ((rows.take hi).drop lo).flatten = (rows.flatten.take (hi * sz)).drop (lo * sz) := by rw [flatten_drop _ hl2, flatten_take _ k2]
  have h5 := (k5.take (hi * sz)).drop (lo * sz)
  rw [← hf] at h5
  refine RD.sl_mk (by simp; omega) (fun r hr => hl2 r (List.mem_of_mem_drop hr)) (by omega) (by omega) h5 fun hne => ?_
  have hlt : lo < hi := by
    rcases Nat.lt_or_ge lo hi with h | h
    · exact h
    · exact absurd (by apply List.drop_eq_nil_of_le; simp; omega) hne
  obtain ⟨b, off, rfl, hc⟩ := k6 (by intro e; subst e; simp at h2; omega)
  rw [if_neg (by omega)]
  refine ⟨b, off + lo * sz, ?_, fun i u hu => ?_⟩
  · simp only [Option.map_some]; unfold Addr.add; split <;> simp_all
  · rw [List.getElem?_drop, List.getElem?_take] at hu
    split at hu
    · rw [Nat.add_assoc]; exact hc _ u hu
    · cases hu
end Go.Ab
