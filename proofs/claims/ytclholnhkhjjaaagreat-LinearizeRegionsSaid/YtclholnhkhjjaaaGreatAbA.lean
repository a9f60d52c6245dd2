/-
  Part AbA of this claim's proof. Joined by merge.py from the texts of wip/tpl.
-/
import Derived.Test.YtclholnhkhjjaaaGreatOwn
set_option linter.unusedVariables false
set_option linter.unusedSimpArgs false
set_option linter.unnecessarySimpa false
namespace Go.Ab
open Go Go.RowKit

/-- Data: a value that reads alike in every memory; a struct or an array, cell by cell; a slice, its elements cell by cell; a pointer to cells that are never written again; several results. -/
inductive D where
  | sc (v : Value)
  | agg (cs : List D)
  | sl (sz : Nat) (rows : List (List D))
  | ref (cs : List D)
  | tup (vs : List D)
  deriving Inhabited

/-- The value v in memory w stands for this data. -/
inductive RD (I : Nat → Nat) (w : World) : Value → D → Prop
  | sc (v : Value) : RD I w v (.sc v)
  | agg (us : List Value) (ds : List D) : us.length = ds.length → (∀ u ∈ us, u.oneCell' = true) → (∀ (i : Nat) (u : Value) (d : D), us[i]? = some u → ds[i]? = some d → RD I w u d) → RD I w (.agg us.toArray) (.agg ds)
  | sl (a : Option Addr) (n c sz : Nat) (us : List Value) (rows : List (List D)) : rows.length = n → (∀ r ∈ rows, r.length = sz) → n ≤ c → c ≤ 9223372036854775807 → us.length = rows.flatten.length →
      (∀ u ∈ us, u.oneCell' = true) → (rows ≠ [] → ∃ b off, a = some ⟨b, off, none⟩ ∧ ∀ i u, us[i]? = some u → off + i < I b ∧ w.cell? ⟨b, off + i, none⟩ = some u) →
      (∀ (i : Nat) (u : Value) (d : D), us[i]? = some u → rows.flatten[i]? = some d → RD I w u d) → RD I w (.slice a n c) (.sl sz rows)
  | ref (b off : Nat) (us : List Value) (ds : List D) : us.length = ds.length → (∀ u ∈ us, u.oneCell' = true) → (∀ i u, us[i]? = some u → off + i < I b ∧ w.cell? ⟨b, off + i, none⟩ = some u) →
      (∀ (i : Nat) (u : Value) (d : D), us[i]? = some u → ds[i]? = some d → RD I w u d) → RD I w (.pointer (some ⟨b, off, none⟩)) (.ref ds)
  | tup (us : List Value) (ds : List D) : us.length = ds.length → (∀ (i : Nat) (u : Value) (d : D), us[i]? = some u → ds[i]? = some d → RD I w u d) → RD I w (.tuple us.toArray) (.tup ds)

/-- What was never to be written again is as it was, and stays so. -/
def KeepI (I : Nat → Nat) (w : World) (I' : Nat → Nat) (w' : World) : Prop :=
  ∀ b o u, o < I b → w.cell? ⟨b, o, none⟩ = some u → o < I' b ∧ w'.cell? ⟨b, o, none⟩ = some u

theorem KeepI.refl (I : Nat → Nat) (w : World) : KeepI I w I w := fun _ _ _ h hc => ⟨h, hc⟩
theorem KeepI.trans {I I' I'' : Nat → Nat} {w w' w'' : World} (h : KeepI I w I' w') (k : KeepI I' w' I'' w'') : KeepI I w I'' w'' :=
  fun b o u ho hc => let ⟨h1, h2⟩ := h b o u ho hc; k b o u h1 h2

theorem RD.mono {I I' : Nat → Nat} {w w' : World} {v : Value} {d : D} (h : RD I w v d) (hk : KeepI I w I' w') : RD I' w' v d := by
  induction h with
  | sc v => exact .sc v
  | agg us ds h1 h2 _ ih => exact .agg us ds h1 h2 ih
  | sl a n c sz us rows h1 h2 h3 h4 h5 h6 h7 _ ih =>
    refine .sl a n c sz us rows h1 h2 h3 h4 h5 h6 (fun hr => ?_) ih
    obtain ⟨b, off, ha, hc⟩ := h7 hr
    exact ⟨b, off, ha, fun i u hu => let ⟨k1, k2⟩ := hc i u hu; hk _ _ _ k1 k2⟩
  | ref b off us ds h1 h2 h3 _ ih => exact .ref b off us ds h1 h2 (fun i u hu => let ⟨k1, k2⟩ := h3 i u hu; hk _ _ _ k1 k2) ih
  | tup us ds h1 _ ih => exact .tup us ds h1 ih

/-- One cell's data. -/
def D.leaf : D → Bool
  | .sc v => v.oneCell'
  | .sl _ _ | .ref _ => true
  | .agg _ | .tup _ => false

theorem RD.leaf {I : Nat → Nat} {w : World} {v : Value} {d : D} (h : RD I w v d) (hl : d.leaf = true) : v.oneCell' = true := by
  cases h <;> first | exact hl | rfl | cases hl

/-- Cells in a row. -/
def RDs (I : Nat → Nat) (w : World) (us : List Value) (ds : List D) : Prop :=
  us.length = ds.length ∧ (∀ u ∈ us, u.oneCell' = true) ∧ ∀ (i : Nat) (u : Value) (d : D), us[i]? = some u → ds[i]? = some d → RD I w u d

theorem RDs.mono {I I' : Nat → Nat} {w w' : World} {us : List Value} {ds : List D} (h : RDs I w us ds) (hk : KeepI I w I' w') : RDs I' w' us ds :=
  ⟨h.1, h.2.1, fun i u d hu hd => (h.2.2 i u d hu hd).mono hk⟩

theorem RDs.append {I : Nat → Nat} {w : World} {us us' : List Value} {ds ds' : List D} (h : RDs I w us ds) (k : RDs I w us' ds') : RDs I w (us ++ us') (ds ++ ds') := by
  refine ⟨by simp [h.1, k.1], fun u hu => ?_, fun i u d hu hd => ?_⟩
  · rcases List.mem_append.1 hu with hu | hu
    · exact h.2.1 u hu
    · exact k.2.1 u hu
  · rw [List.getElem?_append] at hu hd
    rw [h.1] at hu
    split at hu
    · rename_i hlt; rw [if_pos hlt] at hd; exact h.2.2 i u d hu hd
    · rename_i hlt; rw [if_neg hlt] at hd; exact k.2.2 _ u d hu hd

theorem RDs.take {I : Nat → Nat} {w : World} {us : List Value} {ds : List D} (h : RDs I w us ds) (n : Nat) : RDs I w (us.take n) (ds.take n) := by
  refine ⟨by simp [h.1], fun u hu => h.2.1 u (List.mem_of_mem_take hu), fun i u d hu hd => ?_⟩
  rw [List.getElem?_take] at hu hd
  split at hu
  · rename_i hlt; rw [if_pos hlt] at hd; exact h.2.2 i u d hu hd
  · cases hu

theorem RDs.drop {I : Nat → Nat} {w : World} {us : List Value} {ds : List D} (h : RDs I w us ds) (n : Nat) : RDs I w (us.drop n) (ds.drop n) := by
  refine ⟨by simp [h.1], fun u hu => h.2.1 u (List.mem_of_mem_drop hu), fun i u d hu hd => ?_⟩
  rw [List.getElem?_drop] at hu hd
  exact h.2.2 _ u d hu hd

theorem RDs.get {I : Nat → Nat} {w : World} {us : List Value} {ds : List D} (h : RDs I w us ds) {i : Nat} {d : D} (hd : ds[i]? = some d) : ∃ u, us[i]? = some u ∧ RD I w u d := by
  have hi := (List.getElem?_eq_some_iff.1 hd).1
  have : i < us.length := by rw [h.1]; exact hi
  exact ⟨us[i], List.getElem?_eq_getElem this, h.2.2 i _ d (List.getElem?_eq_getElem this) hd⟩

theorem RDs.one {I : Nat → Nat} {w : World} {u : Value} {d : D} (h : RD I w u d) (hl : d.leaf = true) : RDs I w [u] [d] := by
  refine ⟨rfl, fun x hx => ?_, fun i x y hx hy => ?_⟩
  · obtain rfl := List.mem_singleton.1 hx; exact h.leaf hl
  · cases i with
    | zero => simp at hx hy; subst hx; subst hy; exact h
    | succ i => simp at hx

theorem RDs.set {I : Nat → Nat} {w : World} {us : List Value} {ds : List D} (h : RDs I w us ds) {u : Value} {d : D} (k : RD I w u d) (hl : u.oneCell' = true) (i : Nat) : RDs I w (us.set i u) (ds.set i d) := by
  refine ⟨by simp [h.1], fun x hx => ?_, fun j x y hx hy => ?_⟩
  · rcases List.mem_or_eq_of_mem_set hx with hx | hx
    · exact h.2.1 x hx
    · subst hx; exact hl
  · rw [List.getElem?_set] at hx hy
    split at hx
    · rename_i e
      rw [if_pos e] at hy
      split at hx
      · split at hy
        · obtain rfl := Option.some.inj hx; obtain rfl := Option.some.inj hy; exact k
        · cases hy
      · cases hx
    · rename_i e; rw [if_neg e] at hy; exact h.2.2 j x y hx hy

/-- The cells of an element of a row of rows. -/
theorem flatten_row {α : Type} {sz : Nat} : ∀ (rows : List (List α)), (∀ r ∈ rows, r.length = sz) → ∀ (i : Nat) (r : List α), rows[i]? = some r → (rows.flatten.drop (i * sz)).take sz = r
  | [], _, i, r, h => by simp at h
  | x :: rows, hl, 0, r, h => by
    simp at h; subst h
    have := hl x (by simp)
    simp [← this]
  | x :: rows, hl, i + 1, r, h => by
    have hx := hl x (by simp)
    have := flatten_row rows (fun r hr => hl r (by simp [hr])) i r (by simpa using h)
    rw [List.flatten_cons, Nat.add_mul, Nat.one_mul, List.drop_append, List.drop_eq_nil_of_le (by omega), List.nil_append]
    rw [show i * sz + sz - x.length = i * sz by omega]
    exact this

theorem flatten_len {α : Type} {sz : Nat} : ∀ (rows : List (List α)), (∀ r ∈ rows, r.length = sz) → rows.flatten.length = rows.length * sz
  | [], _ => by simp
  | x :: rows, hl => by
    have hx := hl x (by simp)
    have := flatten_len rows fun r hr => hl r (by simp [hr])
    simp [this, hx, Nat.add_mul]; omega

theorem flatten_take {α : Type} {sz : Nat} : ∀ (rows : List (List α)), (∀ r ∈ rows, r.length = sz) → ∀ k, (rows.take k).flatten = rows.flatten.take (k * sz)
  | [], _, k => by simp
  | x :: rows, hl, 0 => by simp
  | x :: rows, hl, k + 1 => by
    have hx := hl x (by simp)
    have := flatten_take rows (fun r hr => hl r (by simp [hr])) k
    rw [List.take_succ_cons, List.flatten_cons, List.flatten_cons, this, Nat.add_mul, Nat.one_mul, List.take_append, List.take_of_length_le (l := x) (by omega)]
    rw [show k * sz + sz - x.length = k * sz by omega]

theorem flatten_drop {α : Type} {sz : Nat} : ∀ (rows : List (List α)), (∀ r ∈ rows, r.length = sz) → ∀ k, (rows.drop k).flatten = rows.flatten.drop (k * sz)
  | [], _, k => by simp
  | x :: rows, hl, 0 => by simp
  | x :: rows, hl, k + 1 => by
    have hx := hl x (by simp)
    have := flatten_drop rows (fun r hr => hl r (by simp [hr])) k
    rw [List.drop_succ_cons, List.flatten_cons, this, Nat.add_mul, Nat.one_mul, List.drop_append, List.drop_eq_nil_of_le (as := x) (by omega), List.nil_append]
    rw [show k * sz + sz - x.length = k * sz by omega]

/-- What a slice's data say of the value. -/
theorem RD.sl_inv {I : Nat → Nat} {w : World} {v : Value} {sz : Nat} {rows : List (List D)} (h : RD I w v (.sl sz rows)) :
    ∃ a c us, v = .slice a rows.length c ∧ (∀ r ∈ rows, r.length = sz) ∧ rows.length ≤ c ∧ c ≤ 9223372036854775807 ∧ RDs I w us rows.flatten ∧
      (rows ≠ [] → ∃ b off, a = some ⟨b, off, none⟩ ∧ ∀ i u, us[i]? = some u → off + i < I b ∧ w.cell? ⟨b, off + i, none⟩ = some u) := by
  cases h with
  | sl a n c sz us rows h1 h2 h3 h4 h5 h6 h7 h8 => subst h1; exact ⟨a, c, us, rfl, h2, h3, h4, ⟨h5, h6, h8⟩, h7⟩

theorem RD.sl_mk {I : Nat → Nat} {w : World} {a : Option Addr} {n c sz : Nat} {us : List Value} {rows : List (List D)} (h1 : rows.length = n) (h2 : ∀ r ∈ rows, r.length = sz) (h3 : n ≤ c) (h4 : c ≤ 9223372036854775807) (h5 : RDs I w us rows.flatten)
    (h6 : rows ≠ [] → ∃ b off, a = some ⟨b, off, none⟩ ∧ ∀ i u, us[i]? = some u → off + i < I b ∧ w.cell? ⟨b, off + i, none⟩ = some u) : RD I w (.slice a n c) (.sl sz rows) :=
  .sl a n c sz us rows h1 h2 h3 h4 h5.1 h5.2.1 h6 h5.2.2

/-- The address of an element. -/
theorem RD.sl_at {I : Nat → Nat} {w : World} {v : Value} {sz : Nat} {rows : List (List D)} (h : RD I w v (.sl sz rows)) {i : Nat} {r : List D} (hr : rows[i]? = some r) :
    ∃ b off c, v = .slice (some ⟨b, off, none⟩) rows.length c ∧ RD I w (.pointer (some ⟨b, off + i * sz, none⟩)) (.ref r) := by
  obtain ⟨a, c, us, rfl, h2, h3, h4, h5, h6⟩ := h.sl_inv
  obtain ⟨b, off, rfl, hc⟩ := h6 (by intro e; subst e; simp at hr)
  refine ⟨b, off, c, rfl, ?_⟩
  have hrow := flatten_row rows h2 i r hr
  have h7 := (h5.drop (i * sz)).take sz
  rw [hrow] at h7
  refine .ref _ _ _ _ h7.1 h7.2.1 (fun j u hu => ?_) h7.2.2
  rw [List.getElem?_take] at hu
  split at hu
  · rw [List.getElem?_drop] at hu
    rw [Nat.add_assoc]
    exact hc _ u hu
  · cases hu

/-- A part of a slice. -/
theorem RD.sl_part {I : Nat → Nat} {w : World} {a : Option Addr} {n c sz : Nat} {rows : List (List D)} (h : RD I w (.slice a n c) (.sl sz rows)) {lo hi : Nat} (h1 : lo ≤ hi) (h2 : hi ≤ rows.length) :
    RD I w (.slice (if c = lo then a else a.map (·.add (lo * sz))) (hi - lo) (c - lo)) (.sl sz ((rows.take hi).drop lo)) := by
  obtain ⟨a', c', us, hv, k2, k3, k4, k5, k6⟩ := h.sl_inv
  cases hv
  have hl2 : ∀ r ∈ rows.take hi, r.length = sz := fun r hr => k2 r (List.mem_of_mem_take hr)
  have hf : ((rows.take hi).drop lo).flatten = (rows.flatten.take (hi * sz)).drop (lo * sz) := by rw [flatten_drop _ hl2, flatten_take _ k2]
  have h5 := (k5.take (hi * sz)).drop (lo * sz)
  rw [← hf] at h5
  refine RD.sl_mk (by simp; omega) (fun r hr => hl2 r (List.mem_of_mem_drop hr)) (by omega) (by omega) h5 fun hne => ?_
  have hlt : lo < hi := by
    rcases Nat.lt_or_ge lo hi with h | h
    · exact h
    · exact absurd (by apply List.drop_eq_nil_of_le; simp; omega) hne
  obtain ⟨b, off, rfl, hc⟩ := k6 (by intro e; subst e; simp at h2; omega)
  rw [if_neg (by omega)]
  refine ⟨b, off + lo * sz, ?_, fun i u hu => ?_⟩
  · simp only [Option.map_some]; unfold Addr.add; split <;> simp_all
  · rw [List.getElem?_drop, List.getElem?_take] at hu
    split at hu
    · rw [Nat.add_assoc]; exact hc _ u hu
    · cases hu
end Go.Ab

namespace Go.Ab
open Go Go.RowKit

/-- What a slot holds: data; a row of the call's own that may grow; no row at all; a pointer into an own variable; a row of the call's own that may grow and be written; a pointer into such a one; a struct of these. -/
inductive AV where
  | d (x : D)
  | tsl (id sz : Nat) (rows : List (List D))
  | nil (sz : Nat)
  | ptr (id off : Nat)
  | vec (id n sz : Nat)
  | vptr (id n off : Nat)
  | agg (cs : List AV)
  deriving Inhabited

/-- An own block: a variable's cells; a row of so many elements. -/
inductive AObj where
  | cells (ds : List AV)
  | row (e sz n : Nat)
  | vec (e sz : Nat) (ds : List AV)
  deriving Inhabited

inductive Own where
  | blk (b : Nat)
  | row (v : Value) (n : Nat)

def Own.block : Own → Option Nat
  | .blk b => some b
  | .row v _ => v.ownBlock

structure Cfg where
  I : Nat → Nat
  own : List Own

def OwnLe : Own → Own → Prop
  | .blk b, o => o = .blk b
  | .row v n, o => ∃ v' n', o = .row v' n' ∧ ((v' = v ∧ n' = n) ∨ n < n')

theorem OwnLe.refl (o : Own) : OwnLe o o := by
  cases o with
  | blk b => rfl
  | row v n => exact ⟨_, _, rfl, .inl ⟨rfl, rfl⟩⟩
theorem OwnLe.trans {a b c : Own} (h : OwnLe a b) (k : OwnLe b c) : OwnLe a c := by
  cases a with
  | blk x => obtain rfl : b = .blk x := h; exact k
  | row v n =>
    obtain ⟨v', n', rfl, h⟩ := h
    obtain ⟨v'', n'', rfl, k⟩ := k
    refine ⟨_, _, rfl, ?_⟩
    rcases h with ⟨rfl, rfl⟩ | h
    · exact k
    · rcases k with ⟨rfl, rfl⟩ | k
      · exact .inr h
      · exact .inr (by omega)

/-- What a step leaves: below block B all is as it was; what was never to be written again stays; own blocks stay own blocks. -/
structure Ext (B : Nat) (k : Cfg) (w : World) (k' : Cfg) (w' : World) : Prop where
  below : Below B w w'
  keep : KeepI k.I w k'.I w'
  low : ∀ b, b < B → k'.I b = k.I b
  own : ∀ (id : Nat) (o : Own), k.own[id]? = some o → ∃ o', k'.own[id]? = some o' ∧ OwnLe o o'

theorem Ext.refl (B : Nat) (k : Cfg) (w : World) : Ext B k w k w := ⟨Below.refl _ _, KeepI.refl _ _, fun _ _ => rfl, fun _ o h => ⟨o, h, OwnLe.refl o⟩⟩
theorem Ext.trans {B : Nat} {k k' k'' : Cfg} {w w' w'' : World} (h : Ext B k w k' w') (g : Ext B k' w' k'' w'') : Ext B k w k'' w'' :=
  ⟨h.below.trans g.below, h.keep.trans g.keep, fun b hb => (g.low b hb).trans (h.low b hb), fun id o ho => by
    obtain ⟨o', h1, h2⟩ := h.own id o ho
    obtain ⟨o'', k1, k2⟩ := g.own id o' h1
    exact ⟨o'', k1, h2.trans k2⟩⟩

/-- A value of one cell stands for what a slot holds. -/
def RL (k : Cfg) (w : World) (v : Value) : AV → Prop
  | .d x => RD k.I w v x
  | .tsl id sz rows => RD k.I w v (.sl sz rows) ∧ ∃ u n, k.own[id]? = some (.row u n) ∧ rows.length ≤ n ∧ (rows.length = n → v = u)
  | .nil _ => v = .slice none 0 0
  | .ptr id off => ∃ b, k.own[id]? = some (.blk b) ∧ v = .pointer (some ⟨b, off, none⟩)
  | .vec id n _ => (∃ a c, v = .slice a n c) ∧ ∃ u n', k.own[id]? = some (.row u n') ∧ n ≤ n' ∧ (n = n' → v = u)
  | .vptr id n off => ∃ b, v = .pointer (some ⟨b, off, none⟩) ∧ ∃ u n', k.own[id]? = some (.row u n') ∧ n ≤ n' ∧ (n = n' → u.ownBlock = some b)
  | .agg _ => False

theorem RL.mono {B : Nat} {k k' : Cfg} {w w' : World} (he : Ext B k w k' w') {v : Value} {x : AV} (h : RL k w v x) : RL k' w' v x := by
  cases x with
  | d x => exact RD.mono h he.keep
  | tsl id sz rows =>
    obtain ⟨h1, u, n, h2, h3, h4⟩ := h
    obtain ⟨o', h5, v', n', rfl, h6⟩ := he.own id _ h2
    refine ⟨h1.mono he.keep, v', n', h5, ?_⟩
    rcases h6 with ⟨rfl, rfl⟩ | h6
    · exact ⟨h3, h4⟩
    · exact ⟨by omega, fun e => by omega⟩
  | nil sz => exact h
  | ptr id off =>
    obtain ⟨b, h1, h2⟩ := h
    obtain ⟨o', h5, rfl⟩ := he.own id _ h1
    exact ⟨b, h5, h2⟩
  | vec id n sz =>
    obtain ⟨h0, u, n1, h2, h3, h4⟩ := h
    obtain ⟨o', h5, v', n', rfl, h6⟩ := he.own id _ h2
    refine ⟨h0, v', n', h5, ?_⟩
    rcases h6 with ⟨rfl, rfl⟩ | h6
    · exact ⟨h3, h4⟩
    · exact ⟨by omega, fun e => by omega⟩
  | vptr id n off =>
    obtain ⟨b, hb, u, n1, h2, h3, h4⟩ := h
    obtain ⟨o', h5, v', n', rfl, h6⟩ := he.own id _ h2
    refine ⟨b, hb, v', n', h5, ?_⟩
    rcases h6 with ⟨rfl, rfl⟩ | h6
    · exact ⟨h3, h4⟩
    · exact ⟨by omega, fun e => by omega⟩
  | agg cs => exact h

/-- Cells in a row. -/
def RAs (k : Cfg) (w : World) (us : List Value) (ds : List AV) : Prop :=
  us.length = ds.length ∧ (∀ u ∈ us, u.oneCell' = true) ∧ ∀ (i : Nat) (u : Value) (d : AV), us[i]? = some u → ds[i]? = some d → RL k w u d

theorem RAs.mono {B : Nat} {k k' : Cfg} {w w' : World} (he : Ext B k w k' w') {us : List Value} {ds : List AV} (h : RAs k w us ds) : RAs k' w' us ds :=
  ⟨h.1, h.2.1, fun i u d hu hd => (h.2.2 i u d hu hd).mono he⟩

theorem RDs.toA {k : Cfg} {w : World} {us : List Value} {ds : List D} (h : RDs k.I w us ds) : RAs k w us (ds.map .d) :=
  ⟨by simp [h.1], h.2.1, fun i u d hu hd => by
    rw [List.getElem?_map] at hd
    obtain ⟨x, hx, rfl⟩ := Option.map_eq_some_iff.1 hd
    exact h.2.2 i u x hu hx⟩

theorem RAs.take {k : Cfg} {w : World} {us : List Value} {ds : List AV} (h : RAs k w us ds) (n : Nat) : RAs k w (us.take n) (ds.take n) := by
  refine ⟨by simp [h.1], fun u hu => h.2.1 u (List.mem_of_mem_take hu), fun i u d hu hd => ?_⟩
  rw [List.getElem?_take] at hu hd
  split at hu
  · rename_i hlt; rw [if_pos hlt] at hd; exact h.2.2 i u d hu hd
  · cases hu

theorem RAs.drop {k : Cfg} {w : World} {us : List Value} {ds : List AV} (h : RAs k w us ds) (n : Nat) : RAs k w (us.drop n) (ds.drop n) := by
  refine ⟨by simp [h.1], fun u hu => h.2.1 u (List.mem_of_mem_drop hu), fun i u d hu hd => ?_⟩
  rw [List.getElem?_drop] at hu hd
  exact h.2.2 _ u d hu hd

theorem RAs.append {k : Cfg} {w : World} {us us' : List Value} {ds ds' : List AV} (h : RAs k w us ds) (g : RAs k w us' ds') : RAs k w (us ++ us') (ds ++ ds') := by
  refine ⟨by simp [h.1, g.1], fun u hu => ?_, fun i u d hu hd => ?_⟩
  · rcases List.mem_append.1 hu with hu | hu
    · exact h.2.1 u hu
    · exact g.2.1 u hu
  · rw [List.getElem?_append] at hu hd
    rw [h.1] at hu
    split at hu
    · rename_i hlt; rw [if_pos hlt] at hd; exact h.2.2 i u d hu hd
    · rename_i hlt; rw [if_neg hlt] at hd; exact g.2.2 _ u d hu hd

theorem RAs.get {k : Cfg} {w : World} {us : List Value} {ds : List AV} (h : RAs k w us ds) {i : Nat} {d : AV} (hd : ds[i]? = some d) : ∃ u, us[i]? = some u ∧ u.oneCell' = true ∧ RL k w u d := by
  have hi := (List.getElem?_eq_some_iff.1 hd).1
  have : i < us.length := by rw [h.1]; exact hi
  exact ⟨us[i], List.getElem?_eq_getElem this, h.2.1 _ (List.getElem_mem _), h.2.2 i _ d (List.getElem?_eq_getElem this) hd⟩

theorem RAs.set {k : Cfg} {w : World} {us : List Value} {ds : List AV} (h : RAs k w us ds) {u : Value} {d : AV} (g : RL k w u d) (hl : u.oneCell' = true) (i : Nat) : RAs k w (us.set i u) (ds.set i d) := by
  refine ⟨by simp [h.1], fun x hx => ?_, fun j x y hx hy => ?_⟩
  · rcases List.mem_or_eq_of_mem_set hx with hx | hx
    · exact h.2.1 x hx
    · subst hx; exact hl
  · rw [List.getElem?_set] at hx hy
    split at hx
    · rename_i e
      rw [if_pos e] at hy
      split at hx
      · split at hy
        · obtain rfl := Option.some.inj hx; obtain rfl := Option.some.inj hy; exact g
        · cases hy
      · cases hx
    · rename_i e; rw [if_neg e] at hy; exact h.2.2 j x y hx hy

/-- A value stands for what a slot holds. -/
def RA (k : Cfg) (w : World) (v : Value) : AV → Prop
  | .agg cs => ∃ us, v = .agg us.toArray ∧ RAs k w us cs
  | x => RL k w v x

theorem RA.mono {B : Nat} {k k' : Cfg} {w w' : World} (he : Ext B k w k' w') {v : Value} {x : AV} (h : RA k w v x) : RA k' w' v x := by
  cases x with
  | agg cs => obtain ⟨us, h1, h2⟩ := h; exact ⟨us, h1, h2.mono he⟩
  | d x => exact RL.mono (x := .d x) he h
  | tsl id sz rows => exact RL.mono (x := .tsl id sz rows) he h
  | nil sz => exact RL.mono (x := .nil sz) he h
  | ptr id off => exact RL.mono (x := .ptr id off) he h
  | vec id n sz => exact RL.mono (x := .vec id n sz) he h
  | vptr id n off => exact RL.mono (x := .vptr id n off) he h

theorem RL.toA {k : Cfg} {w : World} {v : Value} {x : AV} (h : RL k w v x) : RA k w v x := by
  cases x with
  | agg cs => exact h.elim
  | _ => exact h

/-- The data of what a slot holds. -/
def AV.toL : AV → Option D
  | .d x => some x
  | .tsl _ sz rows => some (.sl sz rows)
  | .nil sz => some (.sl sz [])
  | _ => none
def toLs : List AV → Option (List D)
  | [] => some []
  | x :: l => match x.toL, toLs l with
    | some y, some l' => some (y :: l')
    | _, _ => none
def AV.toD : AV → Option D
  | .agg cs => match toLs cs with
    | some ds => some (.agg ds)
    | none => none
  | x => x.toL

theorem RL.toL {k : Cfg} {w : World} {v : Value} {x : AV} {y : D} (h : RL k w v x) (hx : x.toL = some y) : RD k.I w v y := by
  cases x <;> simp [AV.toL] at hx <;> subst hx
  · exact h
  · exact h.1
  · obtain rfl : v = _ := h
    exact .sl none 0 0 _ [] [] rfl (by simp) (by omega) (by omega) rfl (by simp) (by simp) (by simp)

theorem toLs_get : ∀ {ds : List AV} {es : List D}, toLs ds = some es → es.length = ds.length ∧ ∀ (i : Nat) (d : AV), ds[i]? = some d → ∃ e, es[i]? = some e ∧ d.toL = some e
  | [], es, h => by simp [toLs] at h; subst h; simp
  | x :: l, es, h => by
    unfold toLs at h
    cases hx : x.toL with
    | none => simp [hx] at h
    | some y =>
      cases hl : toLs l with
      | none => simp [hx, hl] at h
      | some l' =>
        simp [hx, hl] at h
        subst h
        obtain ⟨h1, h2⟩ := toLs_get hl
        refine ⟨by simp [h1], fun i d hd => ?_⟩
        cases i with
        | zero => simp at hd; subst hd; exact ⟨y, rfl, hx⟩
        | succ i => exact h2 i d (by simpa using hd)

theorem RAs.toLs {k : Cfg} {w : World} {us : List Value} {ds : List AV} {es : List D} (h : RAs k w us ds) (he : Ab.toLs ds = some es) : RDs k.I w us es := by
  obtain ⟨h1, h2⟩ := toLs_get he
  refine ⟨h.1.trans h1.symm, h.2.1, fun i u e hu hee => ?_⟩
  obtain ⟨hi, _⟩ := List.getElem?_eq_some_iff.1 hee
  have hd : ds[i]? = some ds[i] := List.getElem?_eq_getElem (by omega)
  obtain ⟨e', h3, h4⟩ := h2 i _ hd
  rw [hee] at h3
  obtain rfl := Option.some.inj h3
  exact (h.2.2 i u _ hu hd).toL h4

theorem RA.toD {k : Cfg} {w : World} {v : Value} {x : AV} {y : D} (h : RA k w v x) (hx : x.toD = some y) : RD k.I w v y := by
  cases x with
  | agg cs =>
    obtain ⟨us, rfl, h2⟩ := h
    unfold AV.toD at hx
    cases hc : Ab.toLs cs with
    | none => simp [hc] at hx
    | some es =>
      simp [hc] at hx; subst hx
      have h3 := h2.toLs hc
      exact .agg us es h3.1 h3.2.1 h3.2.2
  | d x => exact RL.toL (x := .d x) h hx
  | tsl id sz rows => exact RL.toL (x := .tsl id sz rows) h hx
  | nil sz => exact RL.toL (x := .nil sz) h hx
  | ptr id off => exact RL.toL (x := .ptr id off) h hx
  | vec id n sz => exact RL.toL (x := .vec id n sz) h hx
  | vptr id n off => exact RL.toL (x := .vptr id n off) h hx

/-- One cell's. -/
def AV.leaf : AV → Bool
  | .d x => x.leaf
  | .agg _ => false
  | _ => true

theorem RA.leaf {k : Cfg} {w : World} {v : Value} {x : AV} (h : RA k w v x) (hl : x.leaf = true) : RL k w v x ∧ v.oneCell' = true := by
  cases x with
  | agg cs => cases hl
  | d x => exact ⟨h, RD.leaf h hl⟩
  | tsl id sz rows => exact ⟨h, RD.leaf h.1 rfl⟩
  | nil sz => obtain rfl : v = _ := h; exact ⟨rfl, rfl⟩
  | ptr id off => obtain ⟨b, h1, rfl⟩ := h; exact ⟨⟨b, h1, rfl⟩, rfl⟩
  | vec id n sz => obtain ⟨⟨a, c, rfl⟩, h1⟩ := h; exact ⟨⟨⟨a, c, rfl⟩, h1⟩, rfl⟩
  | vptr id n off => obtain ⟨b, rfl, h1⟩ := h; exact ⟨⟨b, rfl, h1⟩, rfl⟩

/-- The cells of what a slot holds. -/
def AV.cells : AV → Option (List AV)
  | .agg cs => some cs
  | .d (.agg ds) => some (ds.map .d)
  | x => if x.leaf then some [x] else none

theorem RA.cells {k : Cfg} {w : World} {v : Value} {x : AV} {cs : List AV} (h : RA k w v x) (hx : x.cells = some cs) : RAs k w v.cells.toList cs := by
  have leaf : ∀ y : AV, RA k w v y → (if y.leaf then some [y] else none) = some cs → RAs k w v.cells.toList cs := by
    intro y hy hl
    cases hb : y.leaf with
    | false => simp [hb] at hl
    | true =>
      simp [hb] at hl; subst hl
      obtain ⟨h1, h2⟩ := hy.leaf hb
      have : v.cells = #[v] := by cases v <;> first | rfl | simp [Value.oneCell'] at h2
      rw [this]
      refine ⟨rfl, fun u hu => ?_, fun i u d hu hd => ?_⟩
      · simp at hu; subst hu; exact h2
      · cases i with
        | zero => simp at hu hd; subst hu; subst hd; exact h1
        | succ i => simp at hd
  cases x with
  | agg cs' =>
    simp [AV.cells] at hx; subst hx
    obtain ⟨us, rfl, h2⟩ := h
    simpa [Value.cells] using h2
  | d x =>
    cases x with
    | agg ds =>
      simp [AV.cells] at hx; subst hx
      have h' : RD k.I w v (.agg ds) := h
      cases h' with
      | agg us ds h1 h2 h3 =>
        simpa [Value.cells] using RDs.toA (k := k) ⟨h1, h2, h3⟩
    | _ => exact leaf _ h hx
  | _ => exact leaf _ h hx

/-- A struct's cells. -/
def AV.row : AV → Option (List AV)
  | .agg cs => some cs
  | .d (.agg ds) => some (ds.map .d)
  | _ => none

theorem RA.row {k : Cfg} {w : World} {v : Value} {x : AV} {cs : List AV} (h : RA k w v x) (hx : x.row = some cs) : ∃ us, v = .agg us.toArray ∧ RAs k w us cs := by
  cases x with
  | agg cs' => simp [AV.row] at hx; subst hx; exact h
  | d x =>
    cases x with
    | agg ds =>
      simp [AV.row] at hx; subst hx
      have h' : RD k.I w v (.agg ds) := h
      cases h' with
      | agg us ds h1 h2 h3 => exact ⟨us, rfl, RDs.toA (k := k) ⟨h1, h2, h3⟩⟩
    | _ => simp [AV.row] at hx
  | _ => simp [AV.row] at hx

/-- The memory stands for the own blocks. -/
structure St (B : Nat) (k : Cfg) (s : List AObj) (w : World) : Prop where
  base : B ≤ w.heap.size
  len : k.own.length = s.length
  cells : ∀ (id : Nat) (ds : List AV), s[id]? = some (.cells ds) → ∃ b t us, k.own[id]? = some (.blk b) ∧ w.heap[b]? = some (.cells us.toArray t (0, 0)) ∧ RAs k w us ds
  row : ∀ (id e sz n : Nat), s[id]? = some (.row e sz n) → ∃ v xs, k.own[id]? = some (.row v n) ∧ w.ownsRow B e sz v n xs ∧ ∀ g, v.ownBlock = some g → k.I g = n * sz
  vec : ∀ (id e sz : Nat) (ds : List AV), s[id]? = some (.vec e sz ds) → ∃ v n xs, k.own[id]? = some (.row v n) ∧ w.ownsRow B e sz v n xs ∧ (∀ g, v.ownBlock = some g → k.I g = 0) ∧ ds.length = n * sz ∧ RAs k w xs ds
  lies : ∀ (id : Nat) (o : Own) (b : Nat), k.own[id]? = some o → o.block = some b → B ≤ b ∧ b < w.heap.size
  blkI : ∀ (id b : Nat), k.own[id]? = some (.blk b) → k.I b = 0
  apart : ∀ (i j : Nat) (o o' : Own) (b : Nat), i ≠ j → k.own[i]? = some o → k.own[j]? = some o' → o.block = some b → o'.block ≠ some b

/-- A step that leaves all own blocks as they lie. -/
theorem St.same {B : Nat} {k k' : Cfg} {s : List AObj} {w w' : World} (h : St B k s w) (he : Ext B k w k' w') (hown : k'.own = k.own)
    (hb : ∀ b, b < w.heap.size → B ≤ b → w'.heap[b]? = w.heap[b]?) (hI : ∀ b, b < w.heap.size → k'.I b = k.I b) : St B k' s w' := by
  have hsz := he.below.size
  refine ⟨Nat.le_trans h.base hsz, by rw [hown]; exact h.len, fun id ds hs => ?_, fun id e sz n hs => ?_, fun id e sz ds hs => ?_, fun id o b ho hob => ?_, fun id b ho => ?_, fun i j o o' b hij ho ho' => ?_⟩
  · obtain ⟨b, t, us, h1, h2, h3⟩ := h.cells id ds hs
    obtain ⟨l1, l2⟩ := h.lies id _ b h1 rfl
    exact ⟨b, t, us, by rw [hown]; exact h1, by rw [hb b l2 l1]; exact h2, h3.mono he⟩
  · obtain ⟨v, xs, h1, h2, h3⟩ := h.row id e sz n hs
    refine ⟨v, xs, by rw [hown]; exact h1, ⟨h2.1, ?_⟩, fun g hg => ?_⟩
    · rcases h2.2 with e1 | ⟨g, cap, cur, e1, e2, e3, e4⟩
      · exact .inl e1
      · exact .inr ⟨g, cap, cur, e1, e2, by rw [hb g (Array.getElem?_eq_some_iff.1 e3).1 e2]; exact e3, e4⟩
    · rw [hI g (h.lies id _ g h1 hg).2]; exact h3 g hg
  · obtain ⟨v, n, xs, h1, h2, h3, h4, h5⟩ := h.vec id e sz ds hs
    refine ⟨v, n, xs, by rw [hown]; exact h1, ⟨h2.1, ?_⟩, fun g hg => ?_, h4, h5.mono he⟩
    · rcases h2.2 with e1 | ⟨g, cap, cur, e1, e2, e3, e4⟩
      · exact .inl e1
      · exact .inr ⟨g, cap, cur, e1, e2, by rw [hb g (Array.getElem?_eq_some_iff.1 e3).1 e2]; exact e3, e4⟩
    · rw [hI g (h.lies id _ g h1 hg).2]; exact h3 g hg
  · rw [hown] at ho
    obtain ⟨l1, l2⟩ := h.lies id o b ho hob
    exact ⟨l1, by omega⟩
  · rw [hown] at ho
    rw [hI b (h.lies id _ b ho rfl).2]; exact h.blkI id b ho
  · rw [hown] at ho ho'
    exact h.apart i j o o' b hij ho ho'

theorem Ext.drew (B : Nat) (k : Cfg) (w : World) : Ext B k w k w.drew := ⟨(Below.refl _ _).drew, fun _ _ _ h hc => ⟨h, hc⟩, fun _ _ => rfl, fun _ o h => ⟨o, h, OwnLe.refl o⟩⟩
theorem St.drew {B : Nat} {k : Cfg} {s : List AObj} {w : World} (h : St B k s w) : St B k s w.drew := h.same (Ext.drew B k w) rfl (fun _ _ _ => rfl) (fun _ _ => rfl)

def updI (I : Nat → Nat) (n x : Nat) : Nat → Nat := fun b => if b = n then x else I b
theorem updI_self (I : Nat → Nat) (n x : Nat) : updI I n x n = x := by simp [updI]
theorem updI_ne (I : Nat → Nat) {n b : Nat} (x : Nat) (h : b ≠ n) : updI I n x b = I b := by simp [updI, h]

theorem cell_none_lt {w : World} {b o : Nat} {u : Value} (h : w.cell? ⟨b, o, none⟩ = some u) : b < w.heap.size := World.block_lt_of_cell? w _ h

/-- Blocks from B on are made; all older ones lie as they lay. -/
theorem Ext.fresh {B : Nat} {k : Cfg} {w w' : World} (hbase : B ≤ w.heap.size) (hb : Below w.heap.size w w') {I' : Nat → Nat} (hI : ∀ b, b < w.heap.size → I' b = k.I b) (own' : List Own) (ho : ∀ (id : Nat) (o : Own), k.own[id]? = some o → ∃ o', own'[id]? = some o' ∧ OwnLe o o') :
    Ext B k w ⟨I', own'⟩ w' :=
  ⟨hb.mono hbase, fun b o u h hc => by
    have hlt := cell_none_lt hc
    exact ⟨by show o < I' b; rw [hI b hlt]; exact h, (hb.cell (p := ⟨b, o, none⟩) hlt).trans hc⟩, fun b h => hI b (by omega), ho⟩

/-- A call that leaves the memory as it was, but for new blocks: these are never written again. -/
def cellsIn (w : World) (b : Nat) : Nat := match w.heap[b]? with
  | some (.cells c _ _) => c.size
  | _ => 0
theorem lt_cellsIn {w : World} {b o : Nat} {u : Value} (h : w.cell? ⟨b, o, none⟩ = some u) : o < cellsIn w b := by
  unfold World.cell? at h
  unfold cellsIn
  dsimp only at h
  split at h
  · rename_i c _ _ hc
    rw [hc]
    simp at h
    exact (Array.getElem?_eq_some_iff.1 h).1
  · cases h
def bigI (I : Nat → Nat) (n : Nat) (w' : World) : Nat → Nat := fun b => if b < n then I b else cellsIn w' b
theorem bigI_lt (I : Nat → Nat) {n b : Nat} (w' : World) (h : b < n) : bigI I n w' b = I b := by simp [bigI, h]

theorem Ext.called {B : Nat} {k : Cfg} {w w' : World} (hbase : B ≤ w.heap.size) (hb : Below w.heap.size w w') : Ext B k w ⟨bigI k.I w.heap.size w', k.own⟩ w' :=
  Ext.fresh hbase hb (fun _ h => bigI_lt _ _ h) _ fun _ o h => ⟨o, h, OwnLe.refl o⟩
theorem St.called {B : Nat} {k : Cfg} {s : List AObj} {w w' : World} (h : St B k s w) (hb : Below w.heap.size w w') : St B ⟨bigI k.I w.heap.size w', k.own⟩ s w' :=
  h.same (Ext.called h.base hb) rfl (fun b hlt _ => hb.block b hlt) fun _ hlt => bigI_lt _ _ hlt

theorem getElem?_snoc {α : Type} {l : List α} {x : α} {i : Nat} {y : α} (h : (l ++ [x])[i]? = some y) : l[i]? = some y ∨ (i = l.length ∧ y = x) := by
  rw [List.getElem?_append] at h
  split at h
  · exact .inl h
  · rename_i hlt
    right
    have : i - l.length = 0 := by
      rcases Nat.eq_zero_or_pos (i - l.length) with e | e
      · exact e
      · rw [List.getElem?_eq_none (by simp; omega)] at h; cases h
    rw [this] at h
    simp at h
    exact ⟨by omega, h.symm⟩

theorem getElem?_snoc_old {α : Type} {l : List α} (x : α) {i : Nat} {y : α} (h : l[i]? = some y) : (l ++ [x])[i]? = some y := by
  rw [List.getElem?_append_left (List.getElem?_eq_some_iff.1 h).1]; exact h

/-- A new own block. -/
theorem St.new {B : Nat} {k : Cfg} {s : List AObj} {w w' : World} (h : St B k s w) (hb : Below w.heap.size w w') (hsz : w.heap.size < w'.heap.size) (x : Nat) (o : Own) (ob : AObj) (hob : o.block = some w.heap.size)
    (hx : ∀ b, o = .blk b → x = 0)
    (hc : ∀ ds, ob = .cells ds → ∃ t us, o = .blk w.heap.size ∧ w'.heap[w.heap.size]? = some (.cells us.toArray t (0, 0)) ∧ RAs ⟨updI k.I w.heap.size x, k.own ++ [o]⟩ w' us ds)
    (hr : ∀ e sz n, ob = .row e sz n → ∃ v xs, o = .row v n ∧ w'.ownsRow B e sz v n xs ∧ x = n * sz)
    (hv : ∀ e sz ds, ob = .vec e sz ds → ∃ v n xs, o = .row v n ∧ w'.ownsRow B e sz v n xs ∧ x = 0 ∧ ds.length = n * sz ∧ RAs ⟨updI k.I w.heap.size x, k.own ++ [o]⟩ w' xs ds) :
    Ext B k w ⟨updI k.I w.heap.size x, k.own ++ [o]⟩ w' ∧ St B ⟨updI k.I w.heap.size x, k.own ++ [o]⟩ (s ++ [ob]) w' := by
  have hI : ∀ b, b < w.heap.size → updI k.I w.heap.size x b = k.I b := fun b hb => updI_ne _ _ (by omega)
  have he : Ext B k w ⟨updI k.I w.heap.size x, k.own ++ [o]⟩ w' := Ext.fresh h.base hb hI _ fun id o' ho => ⟨o', getElem?_snoc_old _ ho, OwnLe.refl _⟩
  refine ⟨he, Nat.le_trans h.base hb.size, by simp [h.len], fun id ds hs => ?_, fun id e sz n hs => ?_, fun id e sz ds hs => ?_, fun id o' b ho hob' => ?_, fun id b ho => ?_, fun i j o1 o2 b hij ho1 ho2 hb1 hb2 => ?_⟩
  · rcases getElem?_snoc hs with hs2 | ⟨rfl, hs2⟩
    · obtain ⟨b, t, us, h1, h2, h3⟩ := h.cells id ds hs2
      exact ⟨b, t, us, getElem?_snoc_old _ h1, by rw [hb.block b (h.lies id _ b h1 rfl).2]; exact h2, h3.mono he⟩
    · obtain ⟨t, us, ho2, h2, h3⟩ := hc ds hs2.symm
      exact ⟨_, t, us, by rw [← h.len]; simp [ho2], h2, h3⟩
  · rcases getElem?_snoc hs with hs2 | ⟨rfl, hs2⟩
    · obtain ⟨v, xs, h1, h2, h3⟩ := h.row id e sz n hs2
      refine ⟨v, xs, getElem?_snoc_old _ h1, ⟨h2.1, ?_⟩, fun g hg => ?_⟩
      · rcases h2.2 with e1 | ⟨g, cap, cur, e1, e2, e3, e4⟩
        · exact .inl e1
        · exact .inr ⟨g, cap, cur, e1, e2, by rw [hb.block g (Array.getElem?_eq_some_iff.1 e3).1]; exact e3, e4⟩
      · show updI k.I _ _ g = _
        rw [hI g (h.lies id _ g h1 hg).2]; exact h3 g hg
    · obtain ⟨v, xs, ho2, h2, h3⟩ := hr e sz n hs2.symm
      refine ⟨v, xs, by rw [← h.len]; simp [ho2], h2, fun g hg => ?_⟩
      have : some g = some w.heap.size := by rw [← hob, ho2]; exact hg.symm
      obtain rfl := Option.some.inj this
      show updI k.I _ _ _ = _
      rw [updI_self, h3]
  · rcases getElem?_snoc hs with hs2 | ⟨rfl, hs2⟩
    · obtain ⟨v, n, xs, h1, h2, h3, h4, h5⟩ := h.vec id e sz ds hs2
      refine ⟨v, n, xs, getElem?_snoc_old _ h1, ⟨h2.1, ?_⟩, fun g hg => ?_, h4, h5.mono he⟩
      · rcases h2.2 with e1 | ⟨g, cap, cur, e1, e2, e3, e4⟩
        · exact .inl e1
        · exact .inr ⟨g, cap, cur, e1, e2, by rw [hb.block g (Array.getElem?_eq_some_iff.1 e3).1]; exact e3, e4⟩
      · show updI k.I _ _ g = _
        rw [hI g (h.lies id _ g h1 hg).2]; exact h3 g hg
    · obtain ⟨v, n, xs, ho2, h2, h3, h4, h5⟩ := hv e sz ds hs2.symm
      refine ⟨v, n, xs, by rw [← h.len]; simp [ho2], h2, fun g hg => ?_, h4, h5⟩
      have : some g = some w.heap.size := by rw [← hob, ho2]; exact hg.symm
      obtain rfl := Option.some.inj this
      show updI k.I _ _ _ = _
      rw [updI_self, h3]
  · rcases getElem?_snoc ho with ho2 | ⟨rfl, rfl⟩
    · obtain ⟨l1, l2⟩ := h.lies id o' b ho2 hob'
      exact ⟨l1, by omega⟩
    · rw [hob] at hob'; obtain rfl := Option.some.inj hob'; exact ⟨h.base, hsz⟩
  · rcases getElem?_snoc ho with ho2 | ⟨rfl, ho2⟩
    · show updI k.I _ _ b = _
      rw [hI b (h.lies id _ b ho2 rfl).2]; exact h.blkI id b ho2
    · have : some b = some w.heap.size := by rw [← hob, ← ho2]; rfl
      obtain rfl := Option.some.inj this
      show updI k.I _ _ _ = _
      rw [updI_self, hx _ ho2.symm]
  · rcases getElem?_snoc ho1 with ho3 | ⟨rfl, rfl⟩ <;> rcases getElem?_snoc ho2 with ho4 | ⟨rfl, rfl⟩
    · exact h.apart i j o1 o2 b hij ho3 ho4 hb1 hb2
    · have := (h.lies i o1 b ho3 hb1).2
      rw [hob] at hb2; obtain rfl := Option.some.inj hb2; omega
    · have := (h.lies j o2 b ho4 hb2).2
      rw [hob] at hb1; obtain rfl := Option.some.inj hb1; omega
    · exact hij rfl
end Go.Ab

namespace Go.Ab
open Go Go.RowKit

abbrev Fr := List (Nat × AV)
def look : Fr → Nat → Option AV
  | [], _ => none
  | (u, x) :: r, t => if u = t then some x else look r t
def putF (fr : Fr) : Option Nat → AV → Fr
  | none, _ => fr
  | some t, x => (t, x) :: fr
def undefA : AV := .d (.sc undef)

/-- The slots hold what the frame says. -/
def FR (k : Cfg) (w : World) (a : Act) (fr : Fr) : Prop := ∀ t x, look fr t = some x → RA k w (a.tmps.getD t undef) x

theorem FR.mono {B : Nat} {k k' : Cfg} {w w' : World} (he : Ext B k w k' w') {a : Act} {fr : Fr} (h : FR k w a fr) : FR k' w' a fr := fun t x hx => (h t x hx).mono he

theorem getD_put (a : Act) (d : Nat) (v : Value) (hd : d < a.tmps.size) (t : Nat) : (a.put (some d) v).tmps.getD t undef = if d = t then v else a.tmps.getD t undef := by
  simp only [Act.put]
  by_cases h : d = t
  · subst h; simp [hd]
  · rw [if_neg h]; simp [Array.getElem?_setIfInBounds_ne h]

theorem FR.put {k : Cfg} {w : World} {a : Act} {fr : Fr} (h : FR k w a fr) {v : Value} {x : AV} (hx : RA k w v x) {dst : Option Nat} (hd : ∀ d, dst = some d → d < a.tmps.size) : FR k w (a.put dst v) (putF fr dst x) := by
  cases dst with
  | none => exact h
  | some d =>
    intro t y hy
    rw [getD_put a d v (hd d rfl) t]
    unfold putF look at hy
    split at hy
    · rename_i e; rw [if_pos e]; obtain rfl := Option.some.inj hy; exact hx
    · rename_i e; rw [if_neg e]; exact h t y hy

theorem put_size (a : Act) (dst : Option Nat) (v : Value) : (a.put dst v).tmps.size = a.tmps.size := by cases dst <;> simp [Act.put]
theorem put_defers' (a : Act) (dst : Option Nat) (v : Value) : (a.put dst v).defers = a.defers := by cases dst <;> rfl

/-- The operands of an operation hold what the frame says. -/
def Ops (k : Cfg) (w : World) (a : Act) (o : Oper) (fr : Fr) : Prop := ∀ t x, Operand.tmp t ∈ o.op.operands → look fr t = some x → RA k w (a.tmps.getD t undef) x
theorem FR.ops {k : Cfg} {w : World} {a : Act} {fr : Fr} (h : FR k w a fr) (o : Oper) : Ops k w a o fr := fun t x _ hx => h t x hx

/-- What an operation does, in whatever surroundings: it yields a value and a memory. -/
def OpWp (P : Program) (o : Oper) (a : Act) (w : World) (Q : Value → World → Prop) : Prop :=
  ∀ QQ : Exit → Act → World → Prop, o.wp P a w (fun a' w' => ∃ v, a' = a.put o.dst v ∧ Q v w') QQ

/-- An operation as data. -/
def AOp (P : Program) (o : Oper) (fr : Fr) (s : List AObj) (d : AV) (s' : List AObj) : Prop :=
  ∀ (B : Nat) (k : Cfg) (a : Act) (w : World), Ops k w a o fr → St B k s w → OpWp P o a w fun v w' => ∃ k', RA k' w' v d ∧ Ext B k w k' w' ∧ St B k' s' w'

/-- Is a guarded operation wanted? -/
def gd (ops : Array Oper) (fr : Fr) (o : Oper) : Option Bool :=
  match o.guard with
  | none => some true
  | some (j, want) => match (ops[j]?).bind (·.dst) with
    | none => some false
    | some t => match look fr t with
      | some (.d (.sc (.bool b))) => some (b == want)
      | some (.d (.sc (.tuple _))) => some false
      | _ => none

/-- The slot that a guard looks at. -/
def gslot (ops : Array Oper) (o : Oper) : Option Nat := match o.guard with
  | none => none
  | some (j, _) => (ops[j]?).bind (·.dst)

theorem gd_wanted {ops : Array Oper} {fr : Fr} {o : Oper} {b : Bool} (h : gd ops fr o = some b) {k : Cfg} {w : World} {a : Act} (hf : ∀ t x, gslot ops o = some t → look fr t = some x → RA k w (a.tmps.getD t undef) x) :
    Region.wanted o (yielded ops a.tmps) = b := by
  unfold gd at h
  unfold Region.wanted
  unfold gslot at hf
  split at h
  · rename_i hg; rw [hg]; exact Option.some.inj h
  · rename_i j want hg
    simp only [hg] at hf ⊢
    split at h
    · rename_i hn
      unfold yielded
      rw [hn]
      obtain rfl := Option.some.inj h
      rfl
    · rename_i t hn
      unfold yielded
      rw [hn]
      simp only [Option.bind_some]
      split at h
      · rename_i b' hl
        have := hf t _ hn hl
        have hv : RD k.I w (a.tmps.getD t undef) (.sc (.bool b')) := this
        generalize hu : a.tmps.getD t undef = u at hv
        cases hv
        have : a.tmps[t]? = some (.bool b') := by
          rw [Array.getD_eq_getD_getElem?] at hu
          cases hx : a.tmps[t]? with
          | none => simp [hx, undef] at hu
          | some y => simp [hx] at hu; rw [hu]
        rw [this]
        obtain rfl := Option.some.inj h
        cases b' <;> cases want <;> rfl
      · rename_i vs hl
        have := hf t _ hn hl
        have hv : RD k.I w (a.tmps.getD t undef) (.sc (.tuple vs)) := this
        generalize hu : a.tmps.getD t undef = u at hv
        cases hv
        have : a.tmps[t]? = none ∨ a.tmps[t]? = some (.tuple vs) := by
          rw [Array.getD_eq_getD_getElem?] at hu
          cases hx : a.tmps[t]? with
          | none => exact .inl rfl
          | some y => simp [hx] at hu; right; rw [hu]
        obtain rfl := Option.some.inj h
        rcases this with e | e <;> rw [e] <;> rfl
      · cases h

/-- Two stores that hold the same where both hold something. -/
def Agrees (s s2 : List AObj) : Prop := ∀ id : Nat, id < s.length → id < s2.length → s2[id]? = s[id]?
theorem Agrees.refl (s : List AObj) : Agrees s s := fun _ _ _ => rfl

/-- A list of operations in the order of the text; what each touches: 0 nothing of the own blocks, 1 it reads, 2 it writes, 3 it makes one. -/
inductive AOps (P : Program) (ops : Array Oper) : List Oper → Fr → List AObj → List Nat → Fr → List AObj → Prop
  | nil (fr : Fr) (s : List AObj) : AOps P ops [] fr s [] fr s
  | skip (o : Oper) (rest : List Oper) (fr : Fr) (s : List AObj) (fl : List Nat) (fr' : Fr) (s' : List AObj) : gd ops fr o = some false → AOps P ops rest (putF fr o.dst undefA) s fl fr' s' → AOps P ops (o :: rest) fr s (0 :: fl) fr' s'
  | free (o : Oper) (rest : List Oper) (fr : Fr) (s : List AObj) (d : AV) (fl : List Nat) (fr' : Fr) (s' : List AObj) : gd ops fr o = some true → (∀ s, AOp P o fr s d s) → AOps P ops rest (putF fr o.dst d) s fl fr' s' → AOps P ops (o :: rest) fr s (0 :: fl) fr' s'
  | reads (o : Oper) (rest : List Oper) (fr : Fr) (s : List AObj) (d : AV) (fl : List Nat) (fr' : Fr) (s' : List AObj) : gd ops fr o = some true → (∀ s2, Agrees s s2 → AOp P o fr s2 d s2) → AOps P ops rest (putF fr o.dst d) s fl fr' s' → AOps P ops (o :: rest) fr s (1 :: fl) fr' s'
  | make (o : Oper) (rest : List Oper) (fr : Fr) (s : List AObj) (d : AV) (x : AObj) (fl : List Nat) (fr' : Fr) (s' : List AObj) : gd ops fr o = some true → AOp P o fr s d (s ++ [x]) → AOps P ops rest (putF fr o.dst d) (s ++ [x]) fl fr' s' → AOps P ops (o :: rest) fr s (3 :: fl) fr' s'
  | eff (o : Oper) (rest : List Oper) (fr : Fr) (s : List AObj) (d : AV) (s1 : List AObj) (fl : List Nat) (fr' : Fr) (s' : List AObj) : gd ops fr o = some true → AOp P o fr s d s1 → AOps P ops rest (putF fr o.dst d) s1 fl fr' s' → AOps P ops (o :: rest) fr s (2 :: fl) fr' s'

/-- What the end of a walk is told. -/
def Post (B N : Nat) (k : Cfg) (w : World) (Q : Exit → Fr → List AObj → Prop) (e : Exit) (a : Act) (w' : World) : Prop :=
  ∃ fr s k', Q e fr s ∧ a.tmps.size = N ∧ a.defers = [] ∧ Ext B k w k' w' ∧ FR k' w' a fr ∧ St B k' s w'

theorem RA.undf {k : Cfg} {w : World} : RA k w undef undefA := RD.sc undef

theorem wpList_aops {P : Program} {ops : Array Oper} {N B : Nat} {l : List Oper} {fr : Fr} {s : List AObj} {fl : List Nat} {fr' : Fr} {s' : List AObj} (h : AOps P ops l fr s fl fr' s') {Q : Exit → Fr → List AObj → Prop} (hQ : Q .normal fr' s')
    (hN : ∀ o ∈ l, ∀ d, o.dst = some d → d < N) {k0 : Cfg} {w0 : World} : ∀ (k : Cfg) (a : Act) (w : World), a.tmps.size = N → a.defers = [] → FR k w a fr → St B k s w → Ext B k0 w0 k w →
    wpList P ops (Post B N k0 w0 Q) l a w := by
  induction h with
  | nil fr s => exact fun k a w ha hd hf hs he => ⟨fr, s, k, hQ, ha, hd, he, hf, hs⟩
  | skip o rest fr s fl fr' s' hg _ ih =>
    intro k a w ha hd hf hs he
    refine wpList_step fun K hK => ?_
    rw [if_neg (by rw [gd_wanted hg fun t x _ hx => hf t x hx]; simp)]
    exact hK _ _ (ih hQ (fun o ho => hN o (by simp [ho])) k _ w (by rw [put_size, ha]) (by rw [put_defers', hd]) (hf.put RA.undf (by rw [ha]; exact hN o (by simp))) hs he)
  | free o rest fr s d fl fr' s' hg ho _ ih =>
    intro k a w ha hd hf hs he
    refine wpList_step fun K hK => ?_
    rw [if_pos (gd_wanted hg fun t x _ hx => hf t x hx)]
    refine Oper.wp_mono ?_ (ho s B k a w (hf.ops o) hs _)
    rintro _ w' ⟨v, rfl, k', hv, he', hs'⟩
    exact hK _ _ (ih hQ (fun o ho => hN o (by simp [ho])) k' _ w' (by rw [put_size, ha]) (by rw [put_defers', hd]) ((hf.mono he').put hv (by rw [ha]; exact hN o (by simp))) hs' (he.trans he'))
  | reads o rest fr s d fl fr' s' hg ho _ ih =>
    intro k a w ha hd hf hs he
    refine wpList_step fun K hK => ?_
    rw [if_pos (gd_wanted hg fun t x _ hx => hf t x hx)]
    refine Oper.wp_mono ?_ (ho s (Agrees.refl s) B k a w (hf.ops o) hs _)
    rintro _ w' ⟨v, rfl, k', hv, he', hs'⟩
    exact hK _ _ (ih hQ (fun o ho => hN o (by simp [ho])) k' _ w' (by rw [put_size, ha]) (by rw [put_defers', hd]) ((hf.mono he').put hv (by rw [ha]; exact hN o (by simp))) hs' (he.trans he'))
  | make o rest fr s d x fl fr' s' hg ho _ ih =>
    intro k a w ha hd hf hs he
    refine wpList_step fun K hK => ?_
    rw [if_pos (gd_wanted hg fun t x _ hx => hf t x hx)]
    refine Oper.wp_mono ?_ (ho B k a w (hf.ops o) hs _)
    rintro _ w' ⟨v, rfl, k', hv, he', hs'⟩
    exact hK _ _ (ih hQ (fun o ho => hN o (by simp [ho])) k' _ w' (by rw [put_size, ha]) (by rw [put_defers', hd]) ((hf.mono he').put hv (by rw [ha]; exact hN o (by simp))) hs' (he.trans he'))
  | eff o rest fr s d s1 fl fr' s' hg ho _ ih =>
    intro k a w ha hd hf hs he
    refine wpList_step fun K hK => ?_
    rw [if_pos (gd_wanted hg fun t x _ hx => hf t x hx)]
    refine Oper.wp_mono ?_ (ho B k a w (hf.ops o) hs _)
    rintro _ w' ⟨v, rfl, k', hv, he', hs'⟩
    exact hK _ _ (ih hQ (fun o ho => hN o (by simp [ho])) k' _ w' (by rw [put_size, ha]) (by rw [put_defers', hd]) ((hf.mono he').put hv (by rw [ha]; exact hN o (by simp))) hs' (he.trans he'))

/-! ### Whatever order -/

/-- The text's walk, operation by operation. -/
structure Txt (P : Program) (ops : Array Oper) (frs : Nat → Fr) (ss : Nat → List AObj) (ds : Nat → AV) (wt : Nat → Bool) (fl : Nat → Nat) : Prop where
  guard : ∀ (i : Nat) (o : Oper), ops[i]? = some o → gd ops (frs i) o = some (wt i)
  next : ∀ (i : Nat) (o : Oper), ops[i]? = some o → frs (i + 1) = putF (frs i) o.dst (ds i)
  skip : ∀ (i : Nat) (o : Oper), ops[i]? = some o → wt i = false → ds i = undefA
  free : ∀ (i : Nat) (o : Oper), ops[i]? = some o → wt i = true → fl i = 0 → ∀ s, AOp P o (frs i) s (ds i) s
  step : ∀ (i : Nat) (o : Oper), ops[i]? = some o → wt i = true → AOp P o (frs i) (ss i) (ds i) (ss (i + 1))
  reads : ∀ (i : Nat) (o : Oper), ops[i]? = some o → wt i = true → fl i = 1 → ∀ s2, Agrees (ss i) s2 → AOp P o (frs i) s2 (ds i) s2
  make : ∀ (i : Nat), i < ops.size → fl i = 3 → ∃ x, ss (i + 1) = ss i ++ [x]
  still : ∀ (i : Nat), i < ops.size → (fl i < 2 ∨ wt i = false) → ss (i + 1) = ss i
  off : ∀ (i : Nat), wt i = false → fl i = 0

theorem txt_of {P : Program} {ops : Array Oper} : ∀ {l : List Oper} {fr : Fr} {s : List AObj} {fl : List Nat} {fr' : Fr} {s' : List AObj}, AOps P ops l fr s fl fr' s' →
    ∃ (frs : Nat → Fr) (ss : Nat → List AObj) (ds : Nat → AV) (wt : Nat → Bool), frs 0 = fr ∧ ss 0 = s ∧ frs l.length = fr' ∧ ss l.length = s' ∧ fl.length = l.length ∧
      (∀ (i : Nat) (o : Oper), l[i]? = some o → gd ops (frs i) o = some (wt i) ∧ frs (i + 1) = putF (frs i) o.dst (ds i) ∧ (wt i = false → ds i = undefA) ∧ (wt i = true → fl.getD i 0 = 0 → ∀ s, AOp P o (frs i) s (ds i) s) ∧
        (wt i = true → AOp P o (frs i) (ss i) (ds i) (ss (i + 1))) ∧ ((fl.getD i 0 < 2 ∨ wt i = false) → ss (i + 1) = ss i) ∧
        (wt i = true → fl.getD i 0 = 1 → ∀ s2, Agrees (ss i) s2 → AOp P o (frs i) s2 (ds i) s2) ∧ (fl.getD i 0 = 3 → ∃ x, ss (i + 1) = ss i ++ [x])) ∧ ∀ i, wt i = false → fl.getD i 0 = 0 := by
  intro l fr s fl fr' s' h
  induction h with
  | nil fr s => exact ⟨fun _ => fr, fun _ => s, fun _ => undefA, fun _ => true, rfl, rfl, rfl, rfl, rfl, by simp, by simp⟩
  | skip o rest fr s fl fr' s' hg _ ih =>
    obtain ⟨frs, ss, ds, wt, h1, h2, h3, h4, h5, h6, h7⟩ := ih
    refine ⟨fun i => if i = 0 then fr else frs (i - 1), fun i => if i = 0 then s else ss (i - 1), fun i => if i = 0 then undefA else ds (i - 1), fun i => if i = 0 then false else wt (i - 1), rfl, rfl, by simpa using h3, by simpa using h4, by simp [h5], fun i o' ho => ?_, fun i hi => ?_⟩
    · cases i with
      | zero => simp at ho; subst ho; simp [hg, h1, h2]
      | succ i => simpa using h6 i o' (by simpa using ho)
    · cases i with
      | zero => rfl
      | succ i => simpa using h7 i (by simpa using hi)
  | free o rest fr s d fl fr' s' hg ho' _ ih =>
    obtain ⟨frs, ss, ds, wt, h1, h2, h3, h4, h5, h6, h7⟩ := ih
    refine ⟨fun i => if i = 0 then fr else frs (i - 1), fun i => if i = 0 then s else ss (i - 1), fun i => if i = 0 then d else ds (i - 1), fun i => if i = 0 then true else wt (i - 1), rfl, rfl, by simpa using h3, by simpa using h4, by simp [h5], fun i o' ho => ?_, fun i hi => ?_⟩
    · cases i with
      | zero => simp at ho; subst ho; simpa [hg, h1, h2] using ⟨ho', ho' s⟩
      | succ i => simpa using h6 i o' (by simpa using ho)
    · cases i with
      | zero => simp at hi
      | succ i => simpa using h7 i (by simpa using hi)
  | reads o rest fr s d fl fr' s' hg ho' _ ih =>
    obtain ⟨frs, ss, ds, wt, h1, h2, h3, h4, h5, h6, h7⟩ := ih
    refine ⟨fun i => if i = 0 then fr else frs (i - 1), fun i => if i = 0 then s else ss (i - 1), fun i => if i = 0 then d else ds (i - 1), fun i => if i = 0 then true else wt (i - 1), rfl, rfl, by simpa using h3, by simpa using h4, by simp [h5], fun i o' ho => ?_, fun i hi => ?_⟩
    · cases i with
      | zero => simp at ho; subst ho; simpa [hg, h1, h2] using ⟨ho' s (Agrees.refl s), ho'⟩
      | succ i => simpa using h6 i o' (by simpa using ho)
    · cases i with
      | zero => simp at hi
      | succ i => simpa using h7 i (by simpa using hi)
  | make o rest fr s d x fl fr' s' hg ho' _ ih =>
    obtain ⟨frs, ss, ds, wt, h1, h2, h3, h4, h5, h6, h7⟩ := ih
    refine ⟨fun i => if i = 0 then fr else frs (i - 1), fun i => if i = 0 then s else ss (i - 1), fun i => if i = 0 then d else ds (i - 1), fun i => if i = 0 then true else wt (i - 1), rfl, rfl, by simpa using h3, by simpa using h4, by simp [h5], fun i o' ho => ?_, fun i hi => ?_⟩
    · cases i with
      | zero => simp at ho; subst ho; simpa [hg, h1, h2] using ho'
      | succ i => simpa using h6 i o' (by simpa using ho)
    · cases i with
      | zero => simp at hi
      | succ i => simpa using h7 i (by simpa using hi)
  | eff o rest fr s d s1 fl fr' s' hg ho' _ ih =>
    obtain ⟨frs, ss, ds, wt, h1, h2, h3, h4, h5, h6, h7⟩ := ih
    refine ⟨fun i => if i = 0 then fr else frs (i - 1), fun i => if i = 0 then s else ss (i - 1), fun i => if i = 0 then d else ds (i - 1), fun i => if i = 0 then true else wt (i - 1), rfl, rfl, by simpa using h3, by simpa using h4, by simp [h5], fun i o' ho => ?_, fun i hi => ?_⟩
    · cases i with
      | zero => simp at ho; subst ho; simpa [hg, h1, h2] using ho'
      | succ i => simpa using h6 i o' (by simpa using ho)
    · cases i with
      | zero => simp at hi
      | succ i => simpa using h7 i (by simpa using hi)
end Go.Ab

namespace Go.Ab
open Go Go.RowKit

/-- Operation i is ahead of operation j in every order. -/
def anc (bf : Array Nat) (i j : Nat) : Bool := (bf.getD j 0).testBit i

def tmpsOf (o : Oper) : List Nat := o.op.operands.toList.filterMap fun | .tmp t => some t | _ => none
def readsOf (ops : Array Oper) (o : Oper) : List Nat := tmpsOf o ++ (gslot ops o).toList

/-- Two operations touch one slot, one of them writing. -/
def clash (ops : Array Oper) (x y : Oper) : Bool :=
  (match x.dst with | some t => (readsOf ops y).contains t || y.dst == some t | none => false) || (match y.dst with | some t => (readsOf ops x).contains t | none => false)

/-- Two that touch own blocks and have to wait for one another. -/
def conf (a b : Nat) : Bool := (a == 2 && decide (1 ≤ b)) || (b == 2 && decide (1 ≤ a)) || (a == 3 && b == 3)

def ordB (ops : Array Oper) (fl : List Nat) : Bool :=
  let bf := Region.before ops
  (List.range ops.size).all fun j => match ops[j]? with
    | none => true
    | some oj => oj.after.all (fun e => !Region.binds .any e || decide (e.on < j)) &&
      (List.range ops.size).all fun i =>
        (!anc bf i j || oj.after.any fun e => Region.binds .any e && (e.on == i || anc bf i e.on)) &&
        match ops[i]? with
        | none => true
        | some oi => !decide (i < j) || anc bf i j || (!clash ops oi oj && !conf (fl.getD i 0) (fl.getD j 0))

structure OrdOk (ops : Array Oper) (an : Nat → Nat → Bool) (fl : Nat → Nat) : Prop where
  back : ∀ (j : Nat) (o : Oper), ops[j]? = some o → ∀ e ∈ o.after, Region.binds .any e = true → e.on < j
  up : ∀ (i j : Nat) (o : Oper), ops[j]? = some o → i < ops.size → an i j = true → ∃ e ∈ o.after, Region.binds .any e = true ∧ (e.on = i ∨ an i e.on = true)
  names : ∀ (i j : Nat) (oi oj : Oper), i < j → ops[i]? = some oi → ops[j]? = some oj → clash ops oi oj = true → an i j = true
  flags : ∀ (i j : Nat), i < j → j < ops.size → conf (fl i) (fl j) = true → an i j = true

theorem ordOk_of {ops : Array Oper} {fl : List Nat} (h : ordB ops fl = true) : OrdOk ops (anc (Region.before ops)) (fun i => fl.getD i 0) := by
  unfold ordB at h
  simp only [List.all_eq_true, List.mem_range] at h
  have hlt : ∀ {j : Nat} {o : Oper}, ops[j]? = some o → j < ops.size := fun ho => (Array.getElem?_eq_some_iff.1 ho).1
  refine ⟨fun j o ho e he hb => ?_, fun i j o ho hi ha => ?_, fun i j oi oj hij hoi hoj hc => ?_, fun i j hij hj hf => ?_⟩
  · have := h j (hlt ho)
    simp only [ho, Bool.and_eq_true] at this
    have := Array.all_eq_true_iff_forall_mem.1 this.1 e he
    simpa [hb] using this
  · have := h j (hlt ho)
    simp only [ho, Bool.and_eq_true, List.all_eq_true, List.mem_range] at this
    have h2 := (this.2 i hi).1
    rw [ha] at h2
    simp only [Bool.not_true, Bool.false_or] at h2
    obtain ⟨e, he, hb⟩ := Array.any_eq_true'.1 h2
    simp only [Bool.and_eq_true, Bool.or_eq_true, beq_iff_eq] at hb
    exact ⟨e, he, hb.1, hb.2⟩
  · have := h j (hlt hoj)
    simp only [hoj, Bool.and_eq_true, List.all_eq_true, List.mem_range] at this
    have h2 := (this.2 i (hlt hoi)).2
    simp only [hoi, Bool.or_eq_true, Bool.not_eq_true', decide_eq_false_iff_not, Bool.and_eq_true, hc] at h2
    rcases h2 with (h2 | h2) | h2
    · exact absurd hij h2
    · exact h2
    · exact absurd h2.1 (by simp)
  · have hoj : ops[j]? = some ops[j] := Array.getElem?_eq_getElem hj
    have hoi : ops[i]? = some ops[i] := Array.getElem?_eq_getElem (by omega)
    have := h j hj
    simp only [hoj, Bool.and_eq_true, List.all_eq_true, List.mem_range] at this
    have h2 := (this.2 i (by omega)).2
    simp only [hoi, Bool.or_eq_true, Bool.not_eq_true', decide_eq_false_iff_not, Bool.and_eq_true] at h2
    rcases h2 with (h2 | h2) | h2
    · exact absurd hij h2
    · exact h2
    · rw [hf] at h2; cases h2.2

section
variable {P : Program} {ops : Array Oper} {frs : Nat → Fr} {ss : Nat → List AObj} {ds : Nat → AV} {wt : Nat → Bool} {fl : Nat → Nat} {an : Nat → Nat → Bool}

def dstOf (ops : Array Oper) (i : Nat) : Option Nat := (ops[i]?).bind (·.dst)
def valS (ops : Array Oper) (ds : Nat → AV) (fr0 : Fr) (L : Array Bool) (t : Nat) : Nat → Option AV
  | 0 => look fr0 t
  | i + 1 => if L.getD i false = true ∧ dstOf ops i = some t then some (ds i) else valS ops ds fr0 L t i
def valT (ops : Array Oper) (ds : Nat → AV) (fr0 : Fr) (t : Nat) : Nat → Option AV
  | 0 => look fr0 t
  | i + 1 => if dstOf ops i = some t then some (ds i) else valT ops ds fr0 t i

theorem look_putF (fr : Fr) (dst : Option Nat) (x : AV) (t : Nat) : look (putF fr dst x) t = if dst = some t then some x else look fr t := by
  cases dst with
  | none => simp [putF]
  | some d => simp [putF, look]

theorem look_frs (h : Txt P ops frs ss ds wt fl) (t : Nat) : ∀ j, j ≤ ops.size → look (frs j) t = valT ops ds (frs 0) t j
  | 0, _ => rfl
  | j + 1, hj => by
    have ho : ops[j]? = some ops[j] := Array.getElem?_eq_getElem (by omega)
    rw [h.next j _ ho, look_putF, valT, look_frs h t j (by omega)]
    unfold dstOf
    rw [ho]
    rfl

theorem valS_drop (ds : Nat → AV) (fr0 : Fr) (L : Array Bool) (t j : Nat) : ∀ m, j ≤ m → (∀ i, j ≤ i → i < m → dstOf ops i = some t → L.getD i false = false) → valS ops ds fr0 L t m = valS ops ds fr0 L t j
  | 0, hj, _ => by obtain rfl : j = 0 := by omega
                   rfl
  | m + 1, hj, h => by
    by_cases e : j = m + 1
    · subst e; rfl
    · rw [valS, if_neg, valS_drop ds fr0 L t j m (by omega) fun i h1 h2 => h i h1 (by omega)]
      rintro ⟨h1, h2⟩
      have := h m (by omega) (by omega) h2
      rw [this] at h1; cases h1

theorem valS_all (ds : Nat → AV) (fr0 : Fr) (L : Array Bool) (t : Nat) : ∀ j, (∀ i, i < j → dstOf ops i = some t → L.getD i false = true) → valS ops ds fr0 L t j = valT ops ds fr0 t j
  | 0, _ => rfl
  | j + 1, h => by
    rw [valS, valT, valS_all ds fr0 L t j fun i hi => h i (by omega)]
    by_cases e : dstOf ops j = some t
    · rw [if_pos ⟨h j (by omega) e, e⟩, if_pos e]
    · rw [if_neg fun hh => e hh.2, if_neg e]

theorem valS_set (ds : Nat → AV) (fr0 : Fr) (L : Array Bool) (t j : Nat) (hj : j < L.size) : ∀ m,
    ((j < m ∧ dstOf ops j = some t ∧ (∀ i, j < i → i < m → dstOf ops i = some t → L.getD i false = false)) → valS ops ds fr0 (L.setIfInBounds j true) t m = some (ds j)) ∧
    (¬ (j < m ∧ dstOf ops j = some t ∧ (∀ i, j < i → i < m → dstOf ops i = some t → L.getD i false = false)) → valS ops ds fr0 (L.setIfInBounds j true) t m = valS ops ds fr0 L t m)
  | 0 => ⟨fun h => by omega, fun _ => rfl⟩
  | m + 1 => by
    have hget : (L.setIfInBounds j true).getD m false = if m = j then true else L.getD m false := by
      by_cases e : m = j
      · subst e; simp [hj]
      · rw [if_neg e]; exact getD_set_ne false (fun h => e h.symm)
    obtain ⟨ih1, ih2⟩ := valS_set ds fr0 L t j hj m
    refine ⟨fun ⟨h1, h2, h3⟩ => ?_, fun hn => ?_⟩
    · by_cases e : m = j
      · subst e
        simp only [valS]
        rw [hget, if_pos rfl, if_pos ⟨rfl, h2⟩]
      · have h4 := ih1 ⟨by omega, h2, fun i h4 h5 => h3 i h4 (by omega)⟩
        simp only [valS]
        rw [hget, if_neg e, if_neg, h4]
        rintro ⟨h5, h6⟩
        have := h3 m (by omega) (by omega) h6
        rw [h5] at this; cases this
    · simp only [valS]
      rw [hget]
      by_cases e : m = j
      · subst e
        have hmt : dstOf ops m ≠ some t := fun h => hn ⟨by omega, h, fun i h1 h2 => by omega⟩
        rw [if_neg fun h => hmt h.2, if_neg fun h => hmt h.2]
        exact ih2 fun h => by omega
      · rw [if_neg e]
        by_cases hc : L.getD m false = true ∧ dstOf ops m = some t
        · rw [if_pos hc, if_pos hc]
        · rw [if_neg hc, if_neg hc]
          refine ih2 fun ⟨h1, h2, h3⟩ => hn ⟨by omega, h2, fun i h4 h5 h6 => ?_⟩
          by_cases him : i = m
          · subst him
            cases hL : L.getD i false with
            | false => rfl
            | true => exact absurd ⟨hL, h6⟩ hc
          · exact h3 i h4 (by omega) h6

/-- What holds when the operations of L are done. -/
structure Done (ops : Array Oper) (ds : Nat → AV) (fr0 : Fr) (ss : Nat → List AObj) (fl : Nat → Nat) (an : Nat → Nat → Bool) (B N : Nat) (k0 : Cfg) (w0 : World) (L : Array Bool) (k : Cfg) (a : Act) (w : World) : Prop where
  size : L.size = ops.size
  closed : ∀ j, L.getD j false = true → ∀ i, i < ops.size → an i j = true → L.getD i false = true
  tmps : a.tmps.size = N
  defers : a.defers = []
  ext : Ext B k0 w0 k w
  slots : ∀ t x, valS ops ds fr0 L t ops.size = some x → RA k w (a.tmps.getD t undef) x
  store : ∃ m, m ≤ ops.size ∧ (∀ i, i < m → 2 ≤ fl i → L.getD i false = true) ∧ (∀ i, m ≤ i → i < ops.size → 2 ≤ fl i → L.getD i false = false) ∧ St B k (ss m) w

theorem ss_eq (h : Txt P ops frs ss ds wt fl) : ∀ (d m : Nat), m + d ≤ ops.size → (∀ i, m ≤ i → i < m + d → fl i < 2) → ss (m + d) = ss m
  | 0, _, _, _ => rfl
  | d + 1, m, hm, hn => by
    rw [← Nat.add_assoc, h.still (m + d) (by omega) (.inl (hn (m + d) (by omega) (by omega)))]
    exact ss_eq h d m (by omega) (fun i h1 h2 => hn i h1 (by omega))

theorem ss_ext (h : Txt P ops frs ss ds wt fl) (hle : ∀ i, i < ops.size → fl i ≤ 3) : ∀ (d m : Nat), m + d ≤ ops.size → (∀ i, m ≤ i → i < m + d → fl i ≠ 2) → ∃ xs, ss (m + d) = ss m ++ xs
  | 0, _, _, _ => ⟨[], by simp⟩
  | d + 1, m, hm, hn => by
    obtain ⟨xs, hx⟩ := ss_ext h hle d m (by omega) (fun i h1 h2 => hn i h1 (by omega))
    have h2 := hn (m + d) (by omega) (by omega)
    have h3 := hle (m + d) (by omega)
    by_cases h4 : fl (m + d) = 3
    · obtain ⟨x, h5⟩ := h.make (m + d) (by omega) h4
      exact ⟨xs ++ [x], by rw [← Nat.add_assoc, h5, hx, List.append_assoc]⟩
    · exact ⟨xs, by rw [← Nat.add_assoc, h.still (m + d) (by omega) (.inl (by omega)), hx]⟩

theorem agrees_left (s xs : List AObj) : Agrees s (s ++ xs) := fun id h1 _ => by rw [List.getElem?_append_left h1]
theorem agrees_right (s xs : List AObj) : Agrees (s ++ xs) s := fun id _ h2 => by rw [List.getElem?_append_left h2]

theorem region_step (hT : Txt P ops frs ss ds wt fl) (hO : OrdOk ops an fl) (hle : ∀ i, i < ops.size → fl i ≤ 3) {B N : Nat} {k0 : Cfg} {w0 : World} (hN : ∀ o ∈ ops, ∀ d, o.dst = some d → d < N)
    {L : Array Bool} {k : Cfg} {a : Act} {w : World} (hD : Done ops ds (frs 0) ss fl an B N k0 w0 L k a w) {j : Nat} (hj : j ∈ Region.ready .any ops L) {Q : Exit → Act → World → Prop} {K : Act → World → Prop}
    (hK : ∀ k' a' w', Done ops ds (frs 0) ss fl an B N k0 w0 (L.setIfInBounds j true) k' a' w' → K a' w') : wpOp P ops Q j K a w := by
  obtain ⟨hjun, oj, hoj, hall⟩ := mem_ready.1 hj
  have hjn : j < ops.size := (Array.getElem?_eq_some_iff.1 hoj).1
  have hjL : L.getD j false = false := by
    have : j < L.size := by rw [hD.size]; exact hjn
    simpa [this] using hjun
  have hanc : ∀ i, i < ops.size → an i j = true → L.getD i false = true := fun i hi ha => by
    obtain ⟨e, he, hb, h⟩ := hO.up i j oj hoj hi ha
    have h1 := hall e he hb
    rcases h with h | h
    · rw [← h]; exact h1
    · exact hD.closed _ h1 i hi h
  have hafter : ∀ i, i < ops.size → an j i = true → L.getD i false = false := fun i hi ha => by
    cases hL : L.getD i false with
    | false => rfl
    | true => have := hD.closed i hL j hjn ha; rw [hjL] at this; cases this
  have hdst : ∀ {i : Nat} {t : Nat}, dstOf ops i = some t → ∃ oi, ops[i]? = some oi ∧ oi.dst = some t := fun h => by
    unfold dstOf at h
    obtain ⟨oi, h1, h2⟩ := Option.bind_eq_some_iff.1 h
    exact ⟨oi, h1, h2⟩
  -- what is read holds what the text says
  have hval : ∀ t, t ∈ readsOf ops oj → valS ops ds (frs 0) L t ops.size = look (frs j) t := fun t ht => by
    rw [look_frs hT t j (by omega)]
    rw [valS_drop ds (frs 0) L t j ops.size (by omega) fun i h1 h2 h3 => ?_]
    · refine valS_all ds (frs 0) L t j fun i hi h3 => ?_
      obtain ⟨oi, h4, h5⟩ := hdst h3
      refine hanc i (by omega) (hO.names i j oi oj hi h4 hoj ?_)
      unfold clash
      rw [h5]
      simp [ht]
    · obtain ⟨oi, h4, h5⟩ := hdst h3
      by_cases hij : i = j
      · subst hij; exact hjL
      · refine hafter i h2 (hO.names j i oj oi (by omega) hoj h4 ?_)
        unfold clash
        rw [h5]
        simp [ht]
  have hslot : ∀ t x, t ∈ readsOf ops oj → look (frs j) t = some x → RA k w (a.tmps.getD t undef) x := fun t x ht hx => hD.slots t x (by rw [hval t ht]; exact hx)
  have hgd := hT.guard j oj hoj
  have hwant := gd_wanted hgd (k := k) (w := w) (a := a) fun t x hg hx => hslot t x (by unfold readsOf; simp [hg]) hx
  have hops : Ops k w a oj (frs j) := fun t x ht hx => hslot t x (by
    unfold readsOf tmpsOf
    refine List.mem_append_left _ (List.mem_filterMap.2 ⟨.tmp t, by simpa using ht, rfl⟩)) hx
  -- the memory behind it
  have hput : ∀ (v : Value) (k' : Cfg) (w' : World), RA k' w' v (ds j) → Ext B k w k' w' → (∃ m, m ≤ ops.size ∧ (∀ i, i < m → 2 ≤ fl i → (L.setIfInBounds j true).getD i false = true) ∧ (∀ i, m ≤ i → i < ops.size → 2 ≤ fl i → (L.setIfInBounds j true).getD i false = false) ∧ St B k' (ss m) w') →
      K (a.put oj.dst v) w' := fun v k' w' hv he hs => by
    have hjs : j < L.size := by rw [hD.size]; exact hjn
    refine hK k' _ w' ⟨by simp [hD.size], fun i hi m hm ha => ?_, by rw [put_size, hD.tmps], by rw [put_defers', hD.defers], hD.ext.trans he, fun t x hx => ?_, hs⟩
    · by_cases hmj : m = j
      · subst hmj; simp [hjs]
      · rw [getD_set_ne false (Ne.symm hmj)]
        by_cases hij : i = j
        · subst hij; exact hanc m hm ha
        · rw [getD_set_ne false (Ne.symm hij)] at hi
          exact hD.closed i hi m hm ha
    · by_cases hd : dstOf ops j = some t
      · rw [(valS_set ds (frs 0) L t j hjs ops.size).1 ⟨hjn, hd, fun i h1 h2 h3 => ?_⟩] at hx
        · obtain rfl := Option.some.inj hx
          obtain ⟨o', h4, h5⟩ := hdst hd
          rw [hoj] at h4; obtain rfl := Option.some.inj h4
          rw [h5, getD_put _ _ _ (by rw [hD.tmps]; exact hN oj (Array.mem_of_getElem? hoj) t h5), if_pos rfl]
          exact hv
        · obtain ⟨oi, h4, h5⟩ := hdst h3
          obtain ⟨o', h6, h7⟩ := hdst hd
          rw [hoj] at h6; obtain rfl := Option.some.inj h6
          refine hafter i h2 (hO.names j i oj oi h1 hoj h4 ?_)
          unfold clash
          rw [h7, h5]
          simp
      · rw [(valS_set ds (frs 0) L t j hjs ops.size).2 fun h => hd h.2.1] at hx
        have h1 := (hD.slots t x hx).mono he
        have : (a.put oj.dst v).tmps.getD t undef = a.tmps.getD t undef := by
          cases hdj : oj.dst with
          | none => rfl
          | some d =>
            rw [getD_put _ _ _ (by rw [hD.tmps]; exact hN oj (Array.mem_of_getElem? hoj) d hdj), if_neg]
            intro e; subst e
            exact hd (by unfold dstOf; rw [hoj]; exact hdj)
        rw [this]; exact h1
  have hsetj : ∀ i, 2 ≤ fl i → fl j < 2 → (L.setIfInBounds j true).getD i false = L.getD i false := fun i h1 h2 => getD_set_ne false (fun e => by subst e; omega)
  obtain ⟨m, hm, hm1, hm2, hst⟩ := hD.store
  -- whoever conflicts with j is done exactly if he stands ahead of it
  have hbef : ∀ i, i < j → conf (fl i) (fl j) = true → L.getD i false = true := fun i h1 h2 => hanc i (by omega) (hO.flags i j h1 hjn h2)
  have haft : ∀ i, j < i → i < ops.size → conf (fl j) (fl i) = true → L.getD i false = false := fun i h1 h2 h3 => hafter i h2 (hO.flags j i h1 h2 h3)
  have hsame : 2 ≤ fl j → ss j = ss m := fun h1 => by
    have hj3 := hle j hjn
    rcases Nat.le_total m j with hmj | hmj
    · obtain ⟨d, rfl⟩ : ∃ d, j = m + d := ⟨j - m, by omega⟩
      refine ss_eq hT d m (by omega) (fun i h2 h3 => ?_)
      rcases Nat.lt_or_ge (fl i) 2 with h4 | h4
      · exact h4
      · exfalso
        have h5 := hm2 i h2 (by omega) h4
        have h6 := hle i (by omega)
        have h7 := hbef i h3 (by
          have e1 : fl i = 2 ∨ fl i = 3 := by omega
          have e2 : fl (m + d) = 2 ∨ fl (m + d) = 3 := by omega
          rcases e1 with e1 | e1 <;> rcases e2 with e2 | e2 <;> rw [e1, e2] <;> rfl)
        rw [h5] at h7; cases h7
    · obtain ⟨d, rfl⟩ : ∃ d, m = j + d := ⟨m - j, by omega⟩
      refine (ss_eq hT d j hm (fun i h2 h3 => ?_)).symm
      rcases Nat.lt_or_ge (fl i) 2 with h4 | h4
      · exact h4
      · exfalso
        have h5 := hm1 i h3 h4
        have h6 := hle i (by omega)
        by_cases hij : i = j
        · subst hij; rw [hjL] at h5; cases h5
        · have h7 := haft i (by omega) (by omega) (by
            have e1 : fl i = 2 ∨ fl i = 3 := by omega
            have e2 : fl j = 2 ∨ fl j = 3 := by omega
            rcases e1 with e1 | e1 <;> rcases e2 with e2 | e2 <;> rw [e1, e2] <;> rfl)
          rw [h7] at h5; cases h5
  have hagree : fl j = 1 → Agrees (ss j) (ss m) := fun h1 => by
    rcases Nat.le_total m j with hmj | hmj
    · obtain ⟨d, rfl⟩ : ∃ d, j = m + d := ⟨j - m, by omega⟩
      obtain ⟨xs, hx⟩ := ss_ext hT hle d m (by omega) (fun i h2 h3 h4 => by
        have h5 := hm2 i h2 (by omega) (by omega)
        have h7 := hbef i h3 (by rw [h4, h1]; rfl)
        rw [h5] at h7; cases h7)
      rw [hx]; exact agrees_right _ _
    · obtain ⟨d, rfl⟩ : ∃ d, m = j + d := ⟨m - j, by omega⟩
      obtain ⟨xs, hx⟩ := ss_ext hT hle d j hm (fun i h2 h3 h4 => by
        have h5 := hm1 i h3 (by omega)
        by_cases hij : i = j
        · subst hij; omega
        · have h7 := haft i (by omega) (by omega) (by rw [h4, h1]; rfl)
          rw [h7] at h5; cases h5)
      rw [hx]; exact agrees_left _ _
  unfold wpOp
  rw [hoj]
  dsimp only
  rw [hwant]
  cases hw : wt j with
  | false =>
    rw [if_neg (by simp)]
    have hf := hT.off j hw
    rw [hT.skip j oj hoj hw] at hput
    exact hput _ k w RA.undf (Ext.refl B k w) ⟨m, hm, fun i h1 h2 => by rw [hsetj i h2 (by omega)]; exact hm1 i h1 h2, fun i h1 h2 h3 => by rw [hsetj i h3 (by omega)]; exact hm2 i h1 h2 h3, hst⟩
  | true =>
    rw [if_pos rfl]
    left
    by_cases h0 : fl j = 0
    · refine Oper.wp_mono ?_ (hT.free j oj hoj hw h0 (ss m) B k a w hops hst _)
      rintro _ w' ⟨v, rfl, k', hv, he, hs⟩
      exact hput v k' w' hv he ⟨m, hm, fun i h1 h2 => by rw [hsetj i h2 (by omega)]; exact hm1 i h1 h2, fun i h1 h2 h3 => by rw [hsetj i h3 (by omega)]; exact hm2 i h1 h2 h3, hs⟩
    · by_cases h1' : fl j = 1
      · refine Oper.wp_mono ?_ (hT.reads j oj hoj hw h1' (ss m) (hagree h1') B k a w hops hst _)
        rintro _ w' ⟨v, rfl, k', hv, he, hs⟩
        exact hput v k' w' hv he ⟨m, hm, fun i h1 h2 => by rw [hsetj i h2 (by omega)]; exact hm1 i h1 h2, fun i h1 h2 h3 => by rw [hsetj i h3 (by omega)]; exact hm2 i h1 h2 h3, hs⟩
      · have h2' : 2 ≤ fl j := by omega
        have hst' : St B k (ss j) w := by rw [hsame h2']; exact hst
        refine Oper.wp_mono ?_ (hT.step j oj hoj hw B k a w hops hst' _)
        rintro _ w' ⟨v, rfl, k', hv, he, hs⟩
        refine hput v k' w' hv he ⟨j + 1, by omega, fun i h3 h4 => ?_, fun i h3 h4 h5 => ?_, hs⟩
        · by_cases hij : i = j
          · subst hij; simp [hD.size, hjn]
          · rw [getD_set_ne false (Ne.symm hij)]
            refine hbef i (by omega) ?_
            have e1 : fl i = 2 ∨ fl i = 3 := by have := hle i (by omega); omega
            have e2 : fl j = 2 ∨ fl j = 3 := by have := hle j hjn; omega
            rcases e1 with e1 | e1 <;> rcases e2 with e2 | e2 <;> rw [e1, e2] <;> rfl
        · rw [getD_set_ne false (by omega)]
          refine haft i (by omega) h4 ?_
          have e1 : fl i = 2 ∨ fl i = 3 := by have := hle i h4; omega
          have e2 : fl j = 2 ∨ fl j = 3 := by have := hle j hjn; omega
          rcases e1 with e1 | e1 <;> rcases e2 with e2 | e2 <;> rw [e1, e2] <;> rfl

theorem ready_nil (hO : OrdOk ops an fl) {L : Array Bool} (hsz : L.size = ops.size) (h : Region.ready .any ops L = []) : ∀ i, i < ops.size → L.getD i false = true := by
  intro i
  induction i using Nat.strongRecOn with
  | _ i ih =>
    intro hi
    cases hL : L.getD i false with
    | true => rfl
    | false =>
      exfalso
      have : i ∈ Region.ready .any ops L := mem_ready.2 ⟨by have hs : i < L.size := by omega
                                                            simpa [hs] using hL, ops[i], Array.getElem?_eq_getElem hi, fun e he hb => by
        have := hO.back i ops[i] (Array.getElem?_eq_getElem hi) e he hb
        exact ih e.on this (by omega)⟩
      rw [h] at this; cases this

theorem region_any (hT : Txt P ops frs ss ds wt fl) (hO : OrdOk ops an fl) (hle : ∀ i, i < ops.size → fl i ≤ 3) {B N : Nat} {k0 : Cfg} {w0 : World} (hN : ∀ o ∈ ops, ∀ d, o.dst = some d → d < N) {Q : Exit → Fr → List AObj → Prop} (hQ : Q .normal (frs ops.size) (ss ops.size)) :
    ∀ (f : Nat) (L : Array Bool) (U : List Nat) (k : Cfg) (a : Act) (w : World), U.length = f → (∀ i, i < ops.size → L.getD i false = false → i ∈ U) → Done ops ds (frs 0) ss fl an B N k0 w0 L k a w → wpAny P .any ops (Post B N k0 w0 Q) f L a w := by
  have fin : ∀ (L : Array Bool) (k : Cfg) (a : Act) (w : World), (∀ i, i < ops.size → L.getD i false = true) → Done ops ds (frs 0) ss fl an B N k0 w0 L k a w → Post B N k0 w0 Q .normal a w := fun L k a w hall hD => by
    obtain ⟨m, hm, hm1, hm2, hst⟩ := hD.store
    refine ⟨_, _, k, hQ, hD.tmps, hD.defers, hD.ext, fun t x hx => hD.slots t x ?_, ?_⟩
    · rw [look_frs hT t _ (Nat.le_refl _)] at hx
      rw [valS_all ds (frs 0) L t ops.size fun i hi _ => hall i hi]
      exact hx
    · obtain ⟨d, hd⟩ : ∃ d, ops.size = m + d := ⟨ops.size - m, by omega⟩
      rw [hd, ss_eq hT d m (by omega) (fun i h1 h2 => ?_)]
      · exact hst
      · rcases Nat.lt_or_ge (fl i) 2 with h3 | h3
        · exact h3
        · have h4 := hm2 i h1 (by omega) h3
          have h5 := hall i (by omega)
          rw [h4] at h5; cases h5
  intro f
  induction f with
  | zero =>
    intro L U k a w hU hun hD
    obtain rfl : U = [] := List.eq_nil_of_length_eq_zero hU
    have hall : ∀ i, i < ops.size → L.getD i false = true := fun i hi => by
      cases hL : L.getD i false with
      | true => rfl
      | false => exact absurd (hun i hi hL) (by simp)
    refine ⟨?_, fin L k a w hall hD⟩
    cases hr : Region.ready .any ops L with
    | nil => rfl
    | cons j l =>
      have hj : j ∈ Region.ready .any ops L := by rw [hr]; simp
      obtain ⟨hjun, oj, hoj, _⟩ := mem_ready.1 hj
      have hjn : j < ops.size := (Array.getElem?_eq_some_iff.1 hoj).1
      have hs : j < L.size := by rw [hD.size]; exact hjn
      have := hall j hjn
      simp [hs] at this hjun
      rw [this] at hjun; cases hjun
  | succ f ih =>
    intro L U k a w hU hun hD
    refine ⟨fun h => fin L k a w (ready_nil hO hD.size h) hD, fun j hj => ?_⟩
    obtain ⟨hjun, oj, hoj, _⟩ := mem_ready.1 hj
    have hjn : j < ops.size := (Array.getElem?_eq_some_iff.1 hoj).1
    have hs : j < L.size := by rw [hD.size]; exact hjn
    have hjL : L.getD j false = false := by simpa [hs] using hjun
    refine region_step hT hO hle hN hD hj fun k' a' w' hD' => ih _ (U.erase j) k' a' w' ?_ (fun i hi hL => ?_) hD'
    · rw [List.length_erase_of_mem (hun j hjn hjL)]; omega
    · by_cases hij : i = j
      · subst hij; simp [hs] at hL
      · rw [getD_set_ne false (Ne.symm hij)] at hL
        exact (List.mem_erase_of_ne hij).2 (hun i hi hL)
end
end Go.Ab

namespace Go.Ab
open Go Go.RowKit

/-- Code, as data. -/
def AW (P : Program) (B N : Nat) (c : Code) (Q : Exit → Fr → List AObj → Prop) (fr : Fr) (s : List AObj) : Prop :=
  ∀ (k : Cfg) (a : Act) (w : World), a.tmps.size = N → a.defers = [] → FR k w a fr → St B k s w → c.wp P (Post B N k w Q) a w

section
variable {P : Program} {B N : Nat} {Q : Exit → Fr → List AObj → Prop} {fr : Fr} {s : List AObj}

theorem Post.mono {Q' : Exit → Fr → List AObj → Prop} {k : Cfg} {w : World} {e : Exit} {a : Act} {w' : World} (h : Post B N k w Q e a w') (hq : ∀ fr s, Q e fr s → Q' e fr s) : Post B N k w Q' e a w' := by
  obtain ⟨fr, s, k', h1, h2⟩ := h
  exact ⟨fr, s, k', hq _ _ h1, h2⟩
theorem Post.trans {k k' : Cfg} {w w' : World} (he : Ext B k w k' w') {e : Exit} {a : Act} {w'' : World} (h : Post B N k' w' Q e a w'') : Post B N k w Q e a w'' := by
  obtain ⟨fr, s, k'', h1, h2, h3, h4, h5⟩ := h
  exact ⟨fr, s, k'', h1, h2, h3, he.trans h4, h5⟩

theorem AW.mono {c : Code} {Q' : Exit → Fr → List AObj → Prop} (h : AW P B N c Q fr s) (hq : ∀ e fr s, Q e fr s → Q' e fr s) : AW P B N c Q' fr s :=
  fun k a w h1 h2 h3 h4 => wp_mono (h k a w h1 h2 h3 h4) fun _ _ _ h => h.mono (hq _)

/-- Less may be said of the slots. -/
theorem AW.frame {c : Code} {fr' : Fr} (h : AW P B N c Q fr' s) (hf : ∀ t x, look fr' t = some x → look fr t = some x) : AW P B N c Q fr s :=
  fun k a w h1 h2 h3 h4 => h k a w h1 h2 (fun t x hx => h3 t x (hf t x hx)) h4

theorem Post.now {e : Exit} {k : Cfg} {a : Act} {w : World} (hq : Q e fr s) (h1 : a.tmps.size = N) (h2 : a.defers = []) (h3 : FR k w a fr) (h4 : St B k s w) : Post B N k w Q e a w := ⟨fr, s, k, hq, h1, h2, Ext.refl B k w, h3, h4⟩

theorem AW.skip (h : Q .normal fr s) : AW P B N .skip Q fr s := fun _ _ _ h1 h2 h3 h4 => wp_skip (Post.now h h1 h2 h3 h4)
theorem AW.label {l : Nat} (h : Q .normal fr s) : AW P B N (.label l) Q fr s := fun _ _ _ h1 h2 h3 h4 => wp_label (Post.now h h1 h2 h3 h4)
theorem AW.exit {id : Nat} (h : Q (.exit id) fr s) : AW P B N (.exit id) Q fr s := fun _ _ _ h1 h2 h3 h4 => wp_exit (Post.now h h1 h2 h3 h4)
theorem AW.ret (h : Q .ret fr s) : AW P B N .ret Q fr s := fun _ _ _ h1 h2 h3 h4 => wp_ret (Post.now h h1 h2 h3 h4)

def SeqQ (K : Fr → List AObj → Prop) (Q : Exit → Fr → List AObj → Prop) : Exit → Fr → List AObj → Prop
  | .normal, fr, s => K fr s
  | e, fr, s => Q e fr s

theorem AW.seq {x y : Code} (h : AW P B N x (SeqQ (AW P B N y Q) Q) fr s) : AW P B N (.seq x y) Q fr s := fun k a w h1 h2 h3 h4 => by
  refine wp_seq (wp_mono (h k a w h1 h2 h3 h4) fun e a' w' hp => ?_)
  cases e with
  | normal =>
    obtain ⟨fr', s', k', q, g1, g2, g3, g4, g5⟩ := hp
    exact wp_mono (q k' a' w' g1 g2 g4 g5) fun _ _ _ h => h.trans g3
  | _ => exact hp

theorem AW.cond {c : Operand} {x y : Code} {t : Nat} {b : Bool} (hc : c = .tmp t) (hl : look fr t = some (.d (.sc (.bool b)))) (h : AW P B N (if b then x else y) Q fr s) : AW P B N (.cond c x y) Q fr s := fun k a w h1 h2 h3 h4 => by
  have hv : RD k.I w (a.tmps.getD t undef) (.sc (.bool b)) := h3 t _ hl
  refine wp_cond (t := b) ?_ (h k a w h1 h2 h3 h4)
  subst hc
  show a.tmps.getD t undef = _
  generalize a.tmps.getD t undef = u at hv
  cases hv; rfl

theorem AW.condc {b : Bool} {x y : Code} (h : AW P B N (if b then x else y) Q fr s) : AW P B N (.cond (.const (.bool b)) x y) Q fr s := fun k a w h1 h2 h3 h4 => wp_cond (t := b) rfl (h k a w h1 h2 h3 h4)

def BlockQ (id : Nat) (Q : Exit → Fr → List AObj → Prop) : Exit → Fr → List AObj → Prop
  | .exit id', fr, s => if id' = id then Q .normal fr s else Q (.exit id') fr s
  | e, fr, s => Q e fr s

theorem AW.block {id : Nat} {c : Code} (h : AW P B N c (BlockQ id Q) fr s) : AW P B N (.block id c) Q fr s := fun k a w h1 h2 h3 h4 => by
  refine wp_block (wp_mono (h k a w h1 h2 h3 h4) fun e a' w' hp => ?_)
  cases e with
  | exit id' =>
    obtain ⟨fr', s', k', q, g⟩ := hp
    show if id' = id then Post B N k w Q .normal a' w' else Post B N k w Q (.exit id') a' w'
    have q' : if id' = id then Q .normal fr' s' else Q (.exit id') fr' s' := q
    by_cases e : id' = id
    · rw [if_pos e] at q' ⊢; exact ⟨fr', s', k', q', g⟩
    · rw [if_neg e] at q' ⊢; exact ⟨fr', s', k', q', g⟩
  | _ => exact hp

/-- A loop: an invariant with a measure. -/
theorem AW.loop {c : Code} (Inv : Nat → Fr → List AObj → Prop) {m : Nat} (h0 : Inv m fr s) (h : ∀ m fr s, Inv m fr s → AW P B N c (SeqQ (fun fr' s' => ∃ m', m' < m ∧ Inv m' fr' s') Q) fr s) : AW P B N (.loop c) Q fr s := fun k a w h1 h2 h3 h4 => by
  refine wp_loop_ghost (fun n a' w' => Post B N k w (fun _ fr' s' => Inv n fr' s') .normal a' w') m ⟨fr, s, k, h0, h1, h2, Ext.refl B k w, h3, h4⟩ ?_
  rintro n a' w' ⟨fr', s', k', hi, g1, g2, g3, g4, g5⟩
  refine wp_mono (h n fr' s' hi k' a' w' g1 g2 g4 g5) fun e a₁ w₁ hq => ?_
  cases e with
  | normal =>
    obtain ⟨fr1, s1, k1, ⟨m', hm, hi1⟩, l1, l2, l3, l4, l5⟩ := hq
    exact ⟨m', hm, fr1, s1, k1, hi1, l1, l2, g3.trans l3, l4, l5⟩
  | _ => exact Post.trans g3 hq

end

/-! ### Functions -/

def Enters (P : Program) (f : FuncId) : Prop := ∀ (args : Array Value) (w : World), (callFunc f args).run P w = .ok (.enter f args) w

/-- A function as data: called with these data it returns that, and leaves the memory as it was, but for new blocks. -/
structure AFn (P : Program) (f : FuncId) (args : List D) (r : D) : Prop where
  enters : Enters P f
  calls : ∀ (I : Nat → Nat) (w : World) (vs : List Value), vs.length = args.length → (∀ (i : Nat) (v : Value) (d : D), vs[i]? = some v → args[i]? = some d → RD I w v d) →
    Calls P f vs.toArray w fun e w' => ∃ v, e = .returned v ∧ RD (bigI I w.heap.size w') w' v r ∧ Below w.heap.size w w'

def argsFr (args : List D) : Fr := args.zipIdx.map fun (d, i) => (i, .d d)

theorem look_argsFr : ∀ (args : List D) (n t : Nat), look ((args.zipIdx n).map fun (d, i) => (i, AV.d d)) t = if n ≤ t then (args[t - n]?).map .d else none
  | [], n, t => by simp [look]
  | d :: args, n, t => by
    simp only [List.zipIdx_cons, List.map_cons, look, look_argsFr args (n + 1) t]
    by_cases e : n = t
    · subst e; simp
    · rw [if_neg e]
      by_cases h : n ≤ t
      · rw [if_pos h, if_pos (by omega)]
        obtain ⟨d', hd⟩ : ∃ d', t - n = d' + 1 := ⟨t - n - 1, by omega⟩
        rw [hd, show t - (n + 1) = d' by omega]
        rfl
      · rw [if_neg h, if_neg (by omega)]

/-- What a function returns: a slot; cells of an own variable. -/
inductive CR where
  | tmp (t : Nat)
  | cell (t : Nat) (n : Option Nat)

def chunk {α : Type} (sz : Nat) : Nat → List α → List (List α)
  | 0, _ => []
  | n + 1, l => l.take sz :: chunk sz n (l.drop sz)

def mapO {α β : Type} (g : α → Option β) : List α → Option (List β)
  | [] => some []
  | x :: l => match g x, mapO g l with
    | some y, some l' => some (y :: l')
    | _, _ => none

/-- The data of what is returned: own rows are not written any more. -/
def deepD (s : List AObj) : Nat → AV → Option D
  | 0, _ => none
  | f + 1, .vec id n sz => match s[id]? with
    | some (.vec _ sz2 ds) => if sz2 = sz ∧ 0 < sz ∧ ds.length = n * sz then match mapO (deepD s f) ds with
        | some es => some (.sl sz (chunk sz n es))
        | none => none
      else none
    | _ => none
  | f + 1, .agg cs => match mapO (deepD s f) cs with
    | some es => some (.agg es)
    | none => none
  | _ + 1, x => x.toL

def resOne (fr : Fr) (s : List AObj) : CR → Option D
  | .tmp t => match look fr t with
    | some x => deepD s 5 x
    | none => none
  | .cell t none => match look fr t with
    | some (.ptr id off) => match s[id]? with
      | some (.cells cs) => match cs[off]? with
        | some x => deepD s 5 x
        | none => none
      | _ => none
    | _ => none
  | .cell t (some m) => match look fr t with
    | some (.ptr id off) => match s[id]? with
      | some (.cells cs) => if off + m ≤ cs.length then deepD s 5 (.agg ((cs.drop off).take m)) else none
      | _ => none
    | _ => none
def resAll (fr : Fr) (s : List AObj) : List CR → Option (List D)
  | [] => some []
  | r :: l => match resOne fr s r, resAll fr s l with
    | some d, some ds => some (d :: ds)
    | _, _ => none
def resD (fr : Fr) (s : List AObj) (rs : List CR) : Option D :=
  match resAll fr s rs with
  | some [d] => some d
  | some ds => some (.tup ds)
  | none => none

/-- How many cells a value of a type that is loaded has: none: one cell, and no struct. -/
def szOf (P : Program) (t : TypeId) : Option (Option Nat) :=
  match P.underlying t, P.info? t with
  | some d, some i => some (if d.isRow then some i.size else none)
  | _, _ => none

theorem szOf_inv {P : Program} {t : TypeId} {n : Option Nat} (h : szOf P t = some n) : ∃ d i, P.underlying t = some d ∧ P.info? t = some i ∧ n = (if d.isRow then some i.size else none) := by
  unfold szOf at h
  split at h
  · rename_i d i hu hi; exact ⟨d, i, hu, hi, (Option.some.inj h).symm⟩
  · cases h

theorem run_isAgg {P : Program} {w : World} {t : TypeId} {d : TypeDesc} (h : P.underlying t = some d) : (isAgg t).run P w = .ok d.isRow w := by
  unfold isAgg
  simp only [Sem.run_bind, run_underlying h, Result.andThen_ok]
  cases d <;> rfl
end Go.Ab
