/-
  Part GE of this claim's proof. Joined by merge.py from the texts of wip/tpl.
-/
import Derived.Test.YtjlnniaknfpgiaaGreatDoorGC
import Derived.RangeFuncBound
set_option linter.unusedVariables false
set_option linter.unusedSimpArgs false
set_option linter.unnecessarySimpa false
namespace Go.Ab
open Go Go.RowKit

/-- Data: a value that reads alike in every memory; a struct or an array, cell by cell; a slice, its elements cell by cell; a pointer to cells that are never written again; several results. -/
inductive D where
  | sc (v : Value)
  | agg (cs : List D)
  | sl (sz : Nat) (rows : List (List D))
  | ref (cs : List D)
  | tup (vs : List D)
  deriving Inhabited

/-- The value v in memory w stands for this data. -/
inductive RD (I : Nat → Nat) (w : World) : Value → D → Prop
  | sc (v : Value) : RD I w v (.sc v)
  | agg (us : List Value) (ds : List D) : us.length = ds.length → (∀ u ∈ us, u.oneCell' = true) → (∀ (i : Nat) (u : Value) (d : D), us[i]? = some u → ds[i]? = some d → RD I w u d) → RD I w (.agg us.toArray) (.agg ds)
  | sl (a : Option Addr) (n c sz : Nat) (us : List Value) (rows : List (List D)) : rows.length = n → (∀ r ∈ rows, r.length = sz) → n ≤ c → c ≤ 9223372036854775807 → us.length = rows.flatten.length →
      (∀ u ∈ us, u.oneCell' = true) → (rows ≠ [] → ∃ b off, a = some ⟨b, off, none⟩ ∧ ∀ i u, us[i]? = some u → off + i < I b ∧ w.cell? ⟨b, off + i, none⟩ = some u) →
      (∀ (i : Nat) (u : Value) (d : D), us[i]? = some u → rows.flatten[i]? = some d → RD I w u d) → RD I w (.slice a n c) (.sl sz rows)
  | ref (b off : Nat) (us : List Value) (ds : List D) : us.length = ds.length → (∀ u ∈ us, u.oneCell' = true) → (∀ i u, us[i]? = some u → off + i < I b ∧ w.cell? ⟨b, off + i, none⟩ = some u) →
      (∀ (i : Nat) (u : Value) (d : D), us[i]? = some u → ds[i]? = some d → RD I w u d) → RD I w (.pointer (some ⟨b, off, none⟩)) (.ref ds)
  | tup (us : List Value) (ds : List D) : us.length = ds.length → (∀ (i : Nat) (u : Value) (d : D), us[i]? = some u → ds[i]? = some d → RD I w u d) → RD I w (.tuple us.toArray) (.tup ds)

/-- What was never to be written again is as it was, and stays so. -/
def KeepI (I : Nat → Nat) (w : World) (I' : Nat → Nat) (w' : World) : Prop :=
  ∀ b o u, o < I b → w.cell? ⟨b, o, none⟩ = some u → o < I' b ∧ w'.cell? ⟨b, o, none⟩ = some u

theorem KeepI.refl (I : Nat → Nat) (w : World) : KeepI I w I w := fun _ _ _ h hc => ⟨h, hc⟩
theorem KeepI.trans {I I' I'' : Nat → Nat} {w w' w'' : World} (h : KeepI I w I' w') (k : KeepI I' w' I'' w'') : KeepI I w I'' w'' :=
  fun b o u ho hc => let ⟨h1, h2⟩ := h b o u ho hc; k b o u h1 h2

theorem RD.mono {I I' : Nat → Nat} {w w' : World} {v : Value} {d : D} (h : RD I w v d) (hk : KeepI I w I' w') : RD I' w' v d := by
  induction h with
  | sc v => exact .sc v
  | agg us ds h1 h2 _ ih => exact .agg us ds h1 h2 ih
  | sl a n c sz us rows h1 h2 h3 h4 h5 h6 h7 _ ih =>
    refine .sl a n c sz us rows h1 h2 h3 h4 h5 h6 (fun hr => ?_) ih
    obtain ⟨b, off, ha, hc⟩ := h7 hr
    exact ⟨b, off, ha, fun i u hu => let ⟨k1, k2⟩ := hc i u hu; hk _ _ _ k1 k2⟩
  | ref b off us ds h1 h2 h3 _ ih => exact .ref b off us ds h1 h2 (fun i u hu => let ⟨k1, k2⟩ := h3 i u hu; hk _ _ _ k1 k2) ih
  | tup us ds h1 _ ih => exact .tup us ds h1 ih

/-- One cell's data. -/
def D.leaf : D → Bool
  | .sc v => v.oneCell'
  | .sl _ _ | .ref _ => true
  | .agg _ | .tup _ => false

theorem RD.leaf {I : Nat → Nat} {w : World} {v : Value} {d : D} (h : RD I w v d) (hl : d.leaf = true) : v.oneCell' = true := by
  cases h <;> first | exact hl | rfl | cases hl

/-- Cells in a row. -/
def RDs (I : Nat → Nat) (w : World) (us : List Value) (ds : List D) : Prop :=
  us.length = ds.length ∧ (∀ u ∈ us, u.oneCell' = true) ∧ ∀ (i : Nat) (u : Value) (d : D), us[i]? = some u → ds[i]? = some d → RD I w u d

theorem RDs.mono {I I' : Nat → Nat} {w w' : World} {us : List Value} {ds : List D} (h : RDs I w us ds) (hk : KeepI I w I' w') : RDs I' w' us ds :=
  ⟨h.1, h.2.1, fun i u d hu hd => (h.2.2 i u d hu hd).mono hk⟩

theorem RDs.append {I : Nat → Nat} {w : World} {us us' : List Value} {ds ds' : List D} (h : RDs I w us ds) (k : RDs I w us' ds') : RDs I w (us ++ us') (ds ++ ds') := by
  refine ⟨by simp [h.1, k.1], fun u hu => ?_, fun i u d hu hd => ?_⟩
  · rcases List.mem_append.1 hu with hu | hu
    · exact h.2.1 u hu
    · exact k.2.1 u hu
  · rw [List.getElem?_append] at hu hd
    rw [h.1] at hu
    split at hu
    · rename_i hlt; rw [if_pos hlt] at hd; exact h.2.2 i u d hu hd
    · rename_i hlt; rw [if_neg hlt] at hd; exact k.2.2 _ u d hu hd

theorem RDs.take {I : Nat → Nat} {w : World} {us : List Value} {ds : List D} (h : RDs I w us ds) (n : Nat) : RDs I w (us.take n) (ds.take n) := by
  refine ⟨by simp [h.1], fun u hu => h.2.1 u (List.mem_of_mem_take hu), fun i u d hu hd => ?_⟩
  rw [List.getElem?_take] at hu hd
  split at hu
  · rename_i hlt; rw [if_pos hlt] at hd; exact h.2.2 i u d hu hd
  · cases hu

theorem RDs.drop {I : Nat → Nat} {w : World} {us : List Value} {ds : List D} (h : RDs I w us ds) (n : Nat) : RDs I w (us.drop n) (ds.drop n) := by
  refine ⟨by simp [h.1], fun u hu => h.2.1 u (List.mem_of_mem_drop hu), fun i u d hu hd => ?_⟩
  rw [List.getElem?_drop] at hu hd
  exact h.2.2 _ u d hu hd

theorem RDs.get {I : Nat → Nat} {w : World} {us : List Value} {ds : List D} (h : RDs I w us ds) {i : Nat} {d : D} (hd : ds[i]? = some d) : ∃ u, us[i]? = some u ∧ RD I w u d := by
  have hi := (List.getElem?_eq_some_iff.1 hd).1
  have : i < us.length := by rw [h.1]; exact hi
  exact ⟨us[i], List.getElem?_eq_getElem this, h.2.2 i _ d (List.getElem?_eq_getElem this) hd⟩

theorem RDs.one {I : Nat → Nat} {w : World} {u : Value} {d : D} (h : RD I w u d) (hl : d.leaf = true) : RDs I w [u] [d] := by
  refine ⟨rfl, fun x hx => ?_, fun i x y hx hy => ?_⟩
  · obtain rfl := List.mem_singleton.1 hx; exact h.leaf hl
  · cases i with
    | zero => simp at hx hy; subst hx; subst hy; exact h
    | succ i => simp at hx

theorem RDs.set {I : Nat → Nat} {w : World} {us : List Value} {ds : List D} (h : RDs I w us ds) {u : Value} {d : D} (k : RD I w u d) (hl : u.oneCell' = true) (i : Nat) : RDs I w (us.set i u) (ds.set i d) := by
  refine ⟨by simp [h.1], fun x hx => ?_, fun j x y hx hy => ?_⟩
  · rcases List.mem_or_eq_of_mem_set hx with hx | hx
    · exact h.2.1 x hx
    · subst hx; exact hl
  · rw [List.getElem?_set] at hx hy
    split at hx
    · rename_i e
      rw [if_pos e] at hy
      split at hx
      · split at hy
        · obtain rfl := Option.some.inj hx; obtain rfl := Option.some.inj hy; exact k
        · cases hy
      · cases hx
    · rename_i e; rw [if_neg e] at hy; exact h.2.2 j x y hx hy

/-- The cells of an element of a row of rows. -/
theorem flatten_row {α : Type} {sz : Nat} : ∀ (rows : List (List α)), (∀ r ∈ rows, r.length = sz) → ∀ (i : Nat) (r : List α), rows[i]? = some r → (rows.flatten.drop (i * sz)).take sz = r
  | [], _, i, r, h => by simp at h
  | x :: rows, hl, 0, r, h => by
    simp at h; subst h
    have := hl x (by simp)
    simp [← this]
  | x :: rows, hl, i + 1, r, h => by
    have hx := hl x (by simp)
    have := flatten_row rows (fun r hr => hl r (by simp [hr])) i r (by simpa using h)
    rw [List.flatten_cons, Nat.add_mul, Nat.one_mul, List.drop_append, List.drop_eq_nil_of_le (by omega), List.nil_append]
    rw [show i * sz + sz - x.length = i * sz by omega]
    exact this

theorem flatten_len {α : Type} {sz : Nat} : ∀ (rows : List (List α)), (∀ r ∈ rows, r.length = sz) → rows.flatten.length = rows.length * sz
  | [], _ => by simp
  | x :: rows, hl => by
    have hx := hl x (by simp)
    have := flatten_len rows fun r hr => hl r (by simp [hr])
    simp [this, hx, Nat.add_mul]; omega

theorem flatten_take {α : Type} {sz : Nat} : ∀ (rows : List (List α)), (∀ r ∈ rows, r.length = sz) → ∀ k, (rows.take k).flatten = rows.flatten.take (k * sz)
  | [], _, k => by simp
  | x :: rows, hl, 0 => by simp
  | x :: rows, hl, k + 1 => by
    have hx := hl x (by simp)
    have := flatten_take rows (fun r hr => hl r (by simp [hr])) k
    rw [List.take_succ_cons, List.flatten_cons, List.flatten_cons, this, Nat.add_mul, Nat.one_mul, List.take_append, List.take_of_length_le (l := x) (by omega)]
    rw [show k * sz + sz - x.length = k * sz by omega]

theorem flatten_drop {α : Type} {sz : Nat} : ∀ (rows : List (List α)), (∀ r ∈ rows, r.length = sz) → ∀ k, (rows.drop k).flatten = rows.flatten.drop (k * sz)
  | [], _, k => by simp
  | x :: rows, hl, 0 => by simp
  | x :: rows, hl, k + 1 => by
    have hx := hl x (by simp)
    have := flatten_drop rows (fun r hr => hl r (by simp [hr])) k
    rw [List.drop_succ_cons, List.flatten_cons, this, Nat.add_mul, Nat.one_mul, List.drop_append, @List.drop_eq_nil_of_le _ x (k * sz + sz) (by omega), List.nil_append]
    rw [show k * sz + sz - x.length = k * sz by omega]

/-- What a slice's data say of the value. -/
theorem RD.sl_inv {I : Nat → Nat} {w : World} {v : Value} {sz : Nat} {rows : List (List D)} (h : RD I w v (.sl sz rows)) :
    ∃ a c us, v = .slice a rows.length c ∧ (∀ r ∈ rows, r.length = sz) ∧ rows.length ≤ c ∧ c ≤ 9223372036854775807 ∧ RDs I w us rows.flatten ∧
      (rows ≠ [] → ∃ b off, a = some ⟨b, off, none⟩ ∧ ∀ i u, us[i]? = some u → off + i < I b ∧ w.cell? ⟨b, off + i, none⟩ = some u) := by
  cases h with
  | sl a n c sz us rows h1 h2 h3 h4 h5 h6 h7 h8 => subst h1; exact ⟨a, c, us, rfl, h2, h3, h4, ⟨h5, h6, h8⟩, h7⟩

theorem RD.sl_mk {I : Nat → Nat} {w : World} {a : Option Addr} {n c sz : Nat} {us : List Value} {rows : List (List D)} (h1 : rows.length = n) (h2 : ∀ r ∈ rows, r.length = sz) (h3 : n ≤ c) (h4 : c ≤ 9223372036854775807) (h5 : RDs I w us rows.flatten)
    (h6 : rows ≠ [] → ∃ b off, a = some ⟨b, off, none⟩ ∧ ∀ i u, us[i]? = some u → off + i < I b ∧ w.cell? ⟨b, off + i, none⟩ = some u) : RD I w (.slice a n c) (.sl sz rows) :=
  .sl a n c sz us rows h1 h2 h3 h4 h5.1 h5.2.1 h6 h5.2.2

/-- The address of an element. -/
theorem RD.sl_at {I : Nat → Nat} {w : World} {v : Value} {sz : Nat} {rows : List (List D)} (h : RD I w v (.sl sz rows)) {i : Nat} {r : List D} (hr : rows[i]? = some r) :
    ∃ b off c, v = .slice (some ⟨b, off, none⟩) rows.length c ∧ RD I w (.pointer (some ⟨b, off + i * sz, none⟩)) (.ref r) := by
  obtain ⟨a, c, us, rfl, h2, h3, h4, h5, h6⟩ := h.sl_inv
  obtain ⟨b, off, rfl, hc⟩ := h6 (by intro e; subst e; simp at hr)
  refine ⟨b, off, c, rfl, ?_⟩
  have hrow := flatten_row rows h2 i r hr
  have h7 := (h5.drop (i * sz)).take sz
  rw [hrow] at h7
  refine .ref _ _ _ _ h7.1 h7.2.1 (fun j u hu => ?_) h7.2.2
  rw [List.getElem?_take] at hu
  split at hu
  · rw [List.getElem?_drop] at hu
    rw [Nat.add_assoc]
    exact hc _ u hu
  · cases hu

/-- A part of a slice. -/
theorem RD.sl_part {I : Nat → Nat} {w : World} {a : Option Addr} {n c sz : Nat} {rows : List (List D)} (h : RD I w (.slice a n c) (.sl sz rows)) {lo hi : Nat} (h1 : lo ≤ hi) (h2 : hi ≤ rows.length) :
    RD I w (.slice (if c = lo then a else a.map (·.add (lo * sz))) (hi - lo) (c - lo)) (.sl sz ((rows.take hi).drop lo)) := by
  obtain ⟨a', c', us, hv, k2, k3, k4, k5, k6⟩ := h.sl_inv
  cases hv
  have hl2 : ∀ r ∈ rows.take hi, r.length = sz := fun r hr => k2 r (List.mem_of_mem_take hr)
  have hf : ((rows.take hi).drop lo).flatten = (rows.flatten.take (hi * sz)).drop (lo * sz) := by rw [flatten_drop _ hl2, flatten_take _ k2]
  have h5 := (k5.take (hi * sz)).drop (lo * sz)
  rw [← hf] at h5
  refine RD.sl_mk (by simp; omega) (fun r hr => hl2 r (List.mem_of_mem_drop hr)) (by omega) (by omega) h5 fun hne => ?_
  have hlt : lo < hi := by
    rcases Nat.lt_or_ge lo hi with h | h
    · exact h
    · exact absurd (by apply List.drop_eq_nil_of_le; simp; omega) hne
  obtain ⟨b, off, rfl, hc⟩ := k6 (by intro e; subst e; simp at h2; omega)
  rw [if_neg (by omega)]
  refine ⟨b, off + lo * sz, ?_, fun i u hu => ?_⟩
  · simp only [Option.map_some]; unfold Addr.add; split <;> simp_all
  · rw [List.getElem?_drop, List.getElem?_take] at hu
    split at hu
    · rw [Nat.add_assoc]; exact hc _ u hu
    · cases hu
end Go.Ab

namespace Go.Bb
open Go Go.RowKit Go.Ab

/-- What a slot holds: data; a row of the call's own that may grow; no row at all; an empty row without room; a pointer into an own variable; a row of the call's own that may grow and be written; a pointer into such a one; a slice of an own variable's cells; a part of a row that is written (of N elements then); an own map; the yield of an own loop; a function value; a struct; several results. -/
inductive AV where
  | d (x : D)
  | tsl (id sz : Nat) (rows : List (List D))
  | nil (sz : Nat)
  | emp (sz : Nat)
  | ptr (id off : Nat)
  | vec (id n sz : Nat)
  | vptr (id n off : Nat)
  | win (id off n sz : Nat)
  | vwn (id N off n sz : Nat)
  | mp (id : Nat)
  | yld (id : Nat)
  | clo (f : FuncId) (fst cap : List AV)
  | agg (cs : List AV)
  | tup (cs : List AV)
  deriving Inhabited

abbrev Fr := List (Nat × AV)
def look : Fr → Nat → Option AV
  | [], _ => none
  | (u, x) :: r, t => if u = t then some x else look r t

/-- An operand. -/
inductive X where
  | t (n : Nat)
  | c (x : AV)
  deriving Inhabited

/-- Who is called. -/
inductive Callee' where
  | fn (f : FuncId)
  | val (x : X)
  deriving Inhabited

/-- What a cell that is compared holds: a number, a string, a bool. -/
inductive SK where
  | i
  | s
  | b
  deriving DecidableEq, Inhabited

/-- Instructions. -/
inductive CI where
  | mov (x : X)
  | pick (c a b : X)
  | ld (n : Option Nat) (x : X)
  | st (n : Nat) (x v : X)
  | fad (off : Nat) (x : X)
  | iad (sz : Nat) (x i : X)
  | iap (n sz : Nat) (x i : X)
  | fld (off : Nat) (n : Option Nat) (x : X)
  | idx (len sz : Nat) (n : Option Nat) (x i : X)
  | ext (x : X) (i : Nat)
  | bin (op : BinOp) (x y : X)
  | eqa (ag : Bool) (ks : List SK) (neg : Bool) (x y : X)
  | isn (neg : Bool) (x : X)
  | not (x : X)
  | un (op : UnOp) (x : X)
  | mm (mx : Bool) (x y : X)
  | bad
  | len (kd : Nat) (x : X)
  | slc (sz : Nat) (x : X) (lo hi : Option X)
  | slz (sz : Nat) (x : X)
  | sla (n sz : Nat) (x : X) (lo hi : Option X)
  | sls (x : X) (lo hi : Option X)
  | six (x i : X)
  | app (mu : Bool) (e sz bytes : Nat) (x y : X)
  | bld (z : List AV) (ps : List (Nat × Nat × X))
  | bsl (mu : Bool) (e sz n : Nat) (z : List AV) (ps : List (Nat × Nat × X))
  | bsf (sz n : Nat) (z : List AV) (ps : List (Nat × Nat × X))
  | mks (mu : Bool) (e bytes : Nat) (z : AV) (l c : X)
  | cnv (k : IntKind) (x : X)
  | s2b (x : X)
  | s2o (e : Nat) (x : X)
  | b2s (x : X)
  | nck (x : X)
  | box (x : X)
  | bxf (x : X)
  | bxt (t : Nat) (x : X)
  | clr (sz : Nat) (z : List AV) (x : X)
  | mkf (f : FuncId) (fst cap : List X)
  | mkm (ag : Bool)
  | lkp (ag : Bool) (ks : List SK) (z : AV) (ok : Bool) (m k : X)
  | mup (ag : Bool) (ks : List SK) (m k v : X)
  | men (ag : Bool) (ks : List SK) (z : AV) (m k : X)
  | mst (m i v : X)
  | call (c : Callee') (xs : List X)
  deriving Inhabited

structure CO where
  dst : Option Nat
  g : Option (Option Nat × Bool)
  ci : CI

inductive CC where
  | skip
  | ops (dr : Bool) (bf : List Nat) (l : List CO)
  | seq (a b : CC)
  | cond (c : X) (a b : CC)
  | block (id : Nat) (c : CC)
  | loop (c : CC)
  | exit (id : Nat)
  | ret
  | rng (N : Nat) (f : X) (ps : List Nat) (ca cb : CC)
  | trim (keep : List Nat) (c : CC)

/-- How a round may have left a loop over a function. -/
inductive Jmp where
  | ret
  | exit (id : Nat)
  deriving DecidableEq
def Jmp.code : Jmp → Code
  | .ret => .ret
  | .exit id => .exit id

/-- A loop over a function, under way. -/
structure ALoop where
  st : LoopState
  pend : Option Jmp
  fr : Fr
  ps : List Nat
  N : Nat
  ca : CC
  cb : CC

/-- An own block: a variable's cells; a row of so many elements; one that is written; a map, by its keys' cells; a loop over a function; one that is not made yet; one of which nothing is told. -/
inductive AObj where
  | cells (ds : List AV)
  | tcells (t : Nat) (ds : List AV)
  | row (e sz n : Nat)
  | vec (e sz : Nat) (ds : List AV)
  | map (ag : Bool) (es : List (List Value × AV))
  | loop (l : ALoop)
  | hole
  | junk

inductive Own where
  | blk (b : Nat)
  | row (v : Value) (n : Nat)
  | hole

def Own.block : Own → Option Nat
  | .blk b => some b
  | .row v _ => v.ownBlock
  | .hole => none

structure Cfg where
  I : Nat → Nat
  own : List Own

def OwnLe : Own → Own → Prop
  | .blk b, o => o = .blk b
  | .row v n, o => ∃ v' n', o = .row v' n' ∧ ((v' = v ∧ n' = n) ∨ n < n')
  | .hole, _ => True

theorem OwnLe.refl (o : Own) : OwnLe o o := by
  cases o with
  | blk b => rfl
  | row v n => exact ⟨_, _, rfl, .inl ⟨rfl, rfl⟩⟩
  | hole => trivial
theorem OwnLe.trans {a b c : Own} (h : OwnLe a b) (k : OwnLe b c) : OwnLe a c := by
  cases a with
  | blk x => obtain rfl : b = .blk x := h; exact k
  | row v n =>
    obtain ⟨v', n', rfl, h⟩ := h
    obtain ⟨v'', n'', rfl, k⟩ := k
    refine ⟨_, _, rfl, ?_⟩
    rcases h with ⟨rfl, rfl⟩ | h
    · exact k
    · rcases k with ⟨rfl, rfl⟩ | k
      · exact .inr h
      · exact .inr (by omega)
  | hole => trivial

/-- What a told value needs of a step. -/
structure Mono (k : Cfg) (w : World) (k' : Cfg) (w' : World) : Prop where
  keep : KeepI k.I w k'.I w'
  own : ∀ (id : Nat) (o : Own), k.own[id]? = some o → ∃ o', k'.own[id]? = some o' ∧ OwnLe o o'

/-- Block b belongs to nobody. -/
def Unowned (k : Cfg) (b : Nat) : Prop := ∀ (id : Nat) (o : Own), k.own[id]? = some o → o.block ≠ some b

/-- What a step leaves: below block B all is as it was; what was never to be written again stays; own blocks stay own blocks; what nobody owns stays as it was. -/
structure Ext (B : Nat) (k : Cfg) (w : World) (k' : Cfg) (w' : World) : Prop extends Mono k w k' w' where
  below : Below B w w'
  low : ∀ b, b < B → k'.I b = k.I b
  rest : ∀ b, b < w.heap.size → Unowned k b → w'.heap[b]? = w.heap[b]?
  fresh : ∀ (id : Nat) (o : Own) (b : Nat), k'.own[id]? = some o → o.block = some b → b < w.heap.size → ∃ o', k.own[id]? = some o' ∧ o'.block = some b

theorem Ext.mono {B : Nat} {k k' : Cfg} {w w' : World} (h : Ext B k w k' w') : Mono k w k' w' := h.toMono
theorem Mono.refl (k : Cfg) (w : World) : Mono k w k w := ⟨KeepI.refl _ _, fun _ o h => ⟨o, h, OwnLe.refl o⟩⟩
theorem Mono.trans {k k' k'' : Cfg} {w w' w'' : World} (h : Mono k w k' w') (g : Mono k' w' k'' w'') : Mono k w k'' w'' :=
  ⟨h.keep.trans g.keep, fun id o ho => by
    obtain ⟨o', h1, h2⟩ := h.own id o ho
    obtain ⟨o'', k1, k2⟩ := g.own id o' h1
    exact ⟨o'', k1, h2.trans k2⟩⟩
theorem Ext.refl (B : Nat) (k : Cfg) (w : World) : Ext B k w k w := ⟨Mono.refl k w, Below.refl _ _, fun _ _ => rfl, fun _ _ _ => rfl, fun _ o _ ho hb _ => ⟨o, ho, hb⟩⟩
theorem Ext.unowned {B : Nat} {k k' : Cfg} {w w' : World} (h : Ext B k w k' w') {b : Nat} (hb : b < w.heap.size) (hu : Unowned k b) : Unowned k' b := fun id o ho hob => by
  obtain ⟨o', h1, h2⟩ := h.fresh id o b ho hob hb
  exact hu id o' h1 h2
theorem Ext.trans {B : Nat} {k k' k'' : Cfg} {w w' w'' : World} (h : Ext B k w k' w') (g : Ext B k' w' k'' w'') : Ext B k w k'' w'' :=
  ⟨h.mono.trans g.mono, h.below.trans g.below, fun b hb => (g.low b hb).trans (h.low b hb),
    fun b hb hu => (g.rest b (Nat.lt_of_lt_of_le hb h.below.size) (h.unowned hb hu)).trans (h.rest b hb hu),
    fun id o b ho hob hb => by
      obtain ⟨o1, h1, h2⟩ := g.fresh id o b ho hob (Nat.lt_of_lt_of_le hb h.below.size)
      exact h.fresh id o1 b h1 h2 hb⟩

/-- A value stands for what a slot holds. -/
inductive RA (k : Cfg) (w : World) : Value → AV → Prop
  | d {v : Value} {x : D} : RD k.I w v x → RA k w v (.d x)
  | tsl {v : Value} {id sz : Nat} {rows : List (List D)} : RD k.I w v (.sl sz rows) → (∃ u n, k.own[id]? = some (.row u n) ∧ rows.length ≤ n ∧ (rows.length = n → v = u)) → RA k w v (.tsl id sz rows)
  | nil {sz : Nat} : RA k w (.slice none 0 0) (.nil sz)
  | emp {a : Option Addr} {sz : Nat} : RA k w (.slice a 0 0) (.emp sz)
  | ptr {id off b : Nat} : k.own[id]? = some (.blk b) → RA k w (.pointer (some ⟨b, off, none⟩)) (.ptr id off)
  | vec {v : Value} {id n sz : Nat} : (∃ a c, v = .slice a n c) → (∃ u n', k.own[id]? = some (.row u n') ∧ n ≤ n' ∧ (n = n' → v = u)) → RA k w v (.vec id n sz)
  | vptr {b id n off : Nat} : (∃ u n', k.own[id]? = some (.row u n') ∧ n ≤ n' ∧ (n = n' → u.ownBlock = some b)) → RA k w (.pointer (some ⟨b, off, none⟩)) (.vptr id n off)
  | win {b c id off n sz : Nat} : k.own[id]? = some (.blk b) → n ≤ c → c ≤ 9223372036854775807 → RA k w (.slice (some ⟨b, off, none⟩) n c) (.win id off n sz)
  | vwn {v : Value} {id N off n sz : Nat} : (∃ a c, v = .slice a n c) → (∃ u n', k.own[id]? = some (.row u n') ∧ N ≤ n' ∧ (N = n' → ∃ b c, u = .slice (some ⟨b, 0, none⟩) N (off + c) ∧ v = .slice (some ⟨b, off * sz, none⟩) n c ∧ n ≤ c ∧ c ≤ 9223372036854775807)) → RA k w v (.vwn id N off n sz)
  | mp {id b : Nat} : k.own[id]? = some (.blk b) → RA k w (.map (some b)) (.mp id)
  | yld {id b : Nat} : k.own[id]? = some (.blk b) → RA k w (.func (.yield b) #[] #[]) (.yld id)
  | clo {f : FuncId} {us vs : List Value} {fs cs : List AV} : us.length = fs.length → vs.length = cs.length → (∀ (i : Nat) (u : Value) (c : AV), us[i]? = some u → fs[i]? = some c → RA k w u c) →
      (∀ (i : Nat) (u : Value) (c : AV), vs[i]? = some u → cs[i]? = some c → RA k w u c) → RA k w (.func (.func f) us.toArray vs.toArray) (.clo f fs cs)
  | agg {us : List Value} {cs : List AV} : us.length = cs.length → (∀ u ∈ us, u.oneCell' = true) → (∀ (i : Nat) (u : Value) (c : AV), us[i]? = some u → cs[i]? = some c → RA k w u c) → RA k w (.agg us.toArray) (.agg cs)
  | tup {us : List Value} {cs : List AV} : us.length = cs.length → (∀ (i : Nat) (u : Value) (c : AV), us[i]? = some u → cs[i]? = some c → RA k w u c) → RA k w (.tuple us.toArray) (.tup cs)

theorem OwnLe.row {k k' : Cfg} {w w' : World} (he : Mono k w k' w') {id m : Nat} {T : Value → Prop} (h : ∃ u n, k.own[id]? = some (.row u n) ∧ m ≤ n ∧ (m = n → T u)) : ∃ u n, k'.own[id]? = some (.row u n) ∧ m ≤ n ∧ (m = n → T u) := by
  obtain ⟨u, n, h2, h3, h4⟩ := h
  obtain ⟨o', h5, v', n', rfl, h6⟩ := he.own id _ h2
  refine ⟨v', n', h5, ?_⟩
  rcases h6 with ⟨rfl, rfl⟩ | h6
  · exact ⟨h3, h4⟩
  · exact ⟨by omega, fun e => by omega⟩
theorem OwnLe.blk' {k k' : Cfg} {w w' : World} (he : Mono k w k' w') {id b : Nat} (h : k.own[id]? = some (.blk b)) : k'.own[id]? = some (.blk b) := by
  obtain ⟨o', h5, h6⟩ := he.own id _ h
  obtain rfl : o' = .blk b := h6
  exact h5

theorem RA.mono {k k' : Cfg} {w w' : World} (he : Mono k w k' w') {v : Value} {x : AV} (h : RA k w v x) : RA k' w' v x := by
  induction h with
  | d h => exact .d (RD.mono h he.keep)
  | tsl h1 h2 => exact .tsl (h1.mono he.keep) (OwnLe.row he (T := fun u => _ = u) h2)
  | nil => exact .nil
  | emp => exact .emp
  | ptr h => exact .ptr (OwnLe.blk' he h)
  | vec h1 h2 => exact .vec h1 (OwnLe.row he (T := fun u => _ = u) h2)
  | vptr h => exact .vptr (OwnLe.row he (T := fun u => u.ownBlock = some _) h)
  | win h1 h2 h3 => exact .win (OwnLe.blk' he h1) h2 h3
  | vwn h1 h2 => exact .vwn h1 (OwnLe.row he (T := fun u => ∃ b c, u = Value.slice (some ⟨b, 0, none⟩) _ (_ + c) ∧ _ = Value.slice (some ⟨b, _, none⟩) _ c ∧ _ ≤ c ∧ c ≤ 9223372036854775807) h2)
  | mp h => exact .mp (OwnLe.blk' he h)
  | yld h => exact .yld (OwnLe.blk' he h)
  | clo h1 h2 _ _ i1 i2 => exact .clo h1 h2 i1 i2
  | agg h1 h2 _ ih => exact .agg h1 h2 ih
  | tup h1 _ ih => exact .tup h1 ih

theorem RA.d_inv {k : Cfg} {w : World} {v : Value} {x : D} (h : RA k w v (.d x)) : RD k.I w v x := by cases h; assumption
theorem RA.ptr_inv {k : Cfg} {w : World} {v : Value} {id off : Nat} (h : RA k w v (.ptr id off)) : ∃ b, k.own[id]? = some (.blk b) ∧ v = .pointer (some ⟨b, off, none⟩) := by cases h; exact ⟨_, by assumption, rfl⟩
theorem RA.vec_inv {k : Cfg} {w : World} {v : Value} {id n sz : Nat} (h : RA k w v (.vec id n sz)) : (∃ a c, v = .slice a n c) ∧ ∃ u n', k.own[id]? = some (.row u n') ∧ n ≤ n' ∧ (n = n' → v = u) := by
  cases h with | vec h1 h2 => exact ⟨h1, h2⟩
theorem RA.vptr_inv {k : Cfg} {w : World} {v : Value} {id n off : Nat} (h : RA k w v (.vptr id n off)) : ∃ b, v = .pointer (some ⟨b, off, none⟩) ∧ ∃ u n', k.own[id]? = some (.row u n') ∧ n ≤ n' ∧ (n = n' → u.ownBlock = some b) := by
  cases h with | vptr h => exact ⟨_, rfl, h⟩
theorem RA.tsl_inv {k : Cfg} {w : World} {v : Value} {id sz : Nat} {rows : List (List D)} (h : RA k w v (.tsl id sz rows)) : RD k.I w v (.sl sz rows) ∧ ∃ u n, k.own[id]? = some (.row u n) ∧ rows.length ≤ n ∧ (rows.length = n → v = u) := by
  cases h with | tsl h1 h2 => exact ⟨h1, h2⟩
theorem RA.win_inv {k : Cfg} {w : World} {v : Value} {id off n sz : Nat} (h : RA k w v (.win id off n sz)) : ∃ b c, k.own[id]? = some (.blk b) ∧ v = .slice (some ⟨b, off, none⟩) n c ∧ n ≤ c ∧ c ≤ 9223372036854775807 := by
  cases h with | win h1 h2 h3 => exact ⟨_, _, h1, rfl, h2, h3⟩
theorem RA.vwn_inv {k : Cfg} {w : World} {v : Value} {id N off n sz : Nat} (h : RA k w v (.vwn id N off n sz)) : (∃ a c, v = .slice a n c) ∧ ∃ u n', k.own[id]? = some (.row u n') ∧ N ≤ n' ∧ (N = n' → ∃ b c, u = .slice (some ⟨b, 0, none⟩) N (off + c) ∧ v = .slice (some ⟨b, off * sz, none⟩) n c ∧ n ≤ c ∧ c ≤ 9223372036854775807) := by
  cases h with | vwn h1 h2 => exact ⟨h1, h2⟩
theorem RA.mp_inv {k : Cfg} {w : World} {v : Value} {id : Nat} (h : RA k w v (.mp id)) : ∃ b, k.own[id]? = some (.blk b) ∧ v = .map (some b) := by cases h; exact ⟨_, by assumption, rfl⟩
theorem RA.yld_inv {k : Cfg} {w : World} {v : Value} {id : Nat} (h : RA k w v (.yld id)) : ∃ b, k.own[id]? = some (.blk b) ∧ v = .func (.yield b) #[] #[] := by cases h; exact ⟨_, by assumption, rfl⟩
theorem RA.nil_inv {k : Cfg} {w : World} {v : Value} {sz : Nat} (h : RA k w v (.nil sz)) : v = .slice none 0 0 := by cases h; rfl
theorem RA.emp_inv {k : Cfg} {w : World} {v : Value} {sz : Nat} (h : RA k w v (.emp sz)) : ∃ a, v = .slice a 0 0 := by cases h; exact ⟨_, rfl⟩

/-- Cells in a row. -/
def RAs (k : Cfg) (w : World) (us : List Value) (ds : List AV) : Prop :=
  us.length = ds.length ∧ (∀ u ∈ us, u.oneCell' = true) ∧ ∀ (i : Nat) (u : Value) (d : AV), us[i]? = some u → ds[i]? = some d → RA k w u d
/-- Values in a row. -/
def RVs (k : Cfg) (w : World) (us : List Value) (ds : List AV) : Prop :=
  us.length = ds.length ∧ ∀ (i : Nat) (u : Value) (d : AV), us[i]? = some u → ds[i]? = some d → RA k w u d

theorem RA.agg_inv {k : Cfg} {w : World} {v : Value} {cs : List AV} (h : RA k w v (.agg cs)) : ∃ us, v = .agg us.toArray ∧ RAs k w us cs := by
  cases h with | agg h1 h2 h3 => exact ⟨_, rfl, h1, h2, h3⟩
theorem RA.tup_inv {k : Cfg} {w : World} {v : Value} {cs : List AV} (h : RA k w v (.tup cs)) : ∃ us, v = .tuple us.toArray ∧ RVs k w us cs := by
  cases h with | tup h1 h3 => exact ⟨_, rfl, h1, h3⟩
theorem RA.clo_inv {k : Cfg} {w : World} {v : Value} {f : FuncId} {fs cs : List AV} (h : RA k w v (.clo f fs cs)) : ∃ us vs, v = .func (.func f) us.toArray vs.toArray ∧ RVs k w us fs ∧ RVs k w vs cs := by
  cases h with | clo h1 h2 h3 h4 => exact ⟨_, _, rfl, ⟨h1, h3⟩, ⟨h2, h4⟩⟩

theorem RAs.mono {k k' : Cfg} {w w' : World} (he : Mono k w k' w') {us : List Value} {ds : List AV} (h : RAs k w us ds) : RAs k' w' us ds :=
  ⟨h.1, h.2.1, fun i u d hu hd => (h.2.2 i u d hu hd).mono he⟩
theorem RVs.mono {k k' : Cfg} {w w' : World} (he : Mono k w k' w') {us : List Value} {ds : List AV} (h : RVs k w us ds) : RVs k' w' us ds :=
  ⟨h.1, fun i u d hu hd => (h.2 i u d hu hd).mono he⟩
theorem RAs.rvs {k : Cfg} {w : World} {us : List Value} {ds : List AV} (h : RAs k w us ds) : RVs k w us ds := ⟨h.1, h.2.2⟩
theorem RVs.append {k : Cfg} {w : World} {us us' : List Value} {ds ds' : List AV} (h : RVs k w us ds) (h' : RVs k w us' ds') : RVs k w (us ++ us') (ds ++ ds') := by
  refine ⟨by simp [h.1, h'.1], fun i u d hu hd => ?_⟩
  rw [List.getElem?_append] at hu hd
  rw [h.1] at hu
  split at hu
  · rename_i hlt; rw [if_pos hlt] at hd; exact h.2 i u d hu hd
  · rename_i hlt; rw [if_neg hlt] at hd; exact h'.2 _ u d hu hd

theorem RDs.toA {k : Cfg} {w : World} {us : List Value} {ds : List D} (h : RDs k.I w us ds) : RAs k w us (ds.map .d) :=
  ⟨by simp [h.1], h.2.1, fun i u d hu hd => by
    rw [List.getElem?_map] at hd
    obtain ⟨x, hx, rfl⟩ := Option.map_eq_some_iff.1 hd
    exact .d (h.2.2 i u x hu hx)⟩

theorem RAs.take {k : Cfg} {w : World} {us : List Value} {ds : List AV} (h : RAs k w us ds) (n : Nat) : RAs k w (us.take n) (ds.take n) := by
  refine ⟨by simp [h.1], fun u hu => h.2.1 u (List.mem_of_mem_take hu), fun i u d hu hd => ?_⟩
  rw [List.getElem?_take] at hu hd
  split at hu
  · rename_i hlt; rw [if_pos hlt] at hd; exact h.2.2 i u d hu hd
  · cases hu
theorem RAs.drop {k : Cfg} {w : World} {us : List Value} {ds : List AV} (h : RAs k w us ds) (n : Nat) : RAs k w (us.drop n) (ds.drop n) := by
  refine ⟨by simp [h.1], fun u hu => h.2.1 u (List.mem_of_mem_drop hu), fun i u d hu hd => ?_⟩
  rw [List.getElem?_drop] at hu hd
  exact h.2.2 _ u d hu hd
theorem RAs.append {k : Cfg} {w : World} {us us' : List Value} {ds ds' : List AV} (h : RAs k w us ds) (k' : RAs k w us' ds') : RAs k w (us ++ us') (ds ++ ds') := by
  refine ⟨by simp [h.1, k'.1], fun u hu => ?_, fun i u d hu hd => ?_⟩
  · rcases List.mem_append.1 hu with hu | hu
    · exact h.2.1 u hu
    · exact k'.2.1 u hu
  · rw [List.getElem?_append] at hu hd
    rw [h.1] at hu
    split at hu
    · rename_i hlt; rw [if_pos hlt] at hd; exact h.2.2 i u d hu hd
    · rename_i hlt; rw [if_neg hlt] at hd; exact k'.2.2 _ u d hu hd
theorem RAs.get {k : Cfg} {w : World} {us : List Value} {ds : List AV} (h : RAs k w us ds) {i : Nat} {d : AV} (hd : ds[i]? = some d) : ∃ u, us[i]? = some u ∧ u.oneCell' = true ∧ RA k w u d := by
  have hi := (List.getElem?_eq_some_iff.1 hd).1
  have : i < us.length := by rw [h.1]; exact hi
  exact ⟨us[i], List.getElem?_eq_getElem this, h.2.1 _ (List.getElem_mem _), h.2.2 i _ d (List.getElem?_eq_getElem this) hd⟩

/-- The data of what a slot holds. -/
def AV.toL : AV → Option D
  | .d x => some x
  | .tsl _ sz rows => some (.sl sz rows)
  | .nil sz => some (.sl sz [])
  | .emp sz => some (.sl sz [])
  | _ => none
def toLs : List AV → Option (List D)
  | [] => some []
  | x :: l => match x.toL, toLs l with
    | some d, some ds => some (d :: ds)
    | _, _ => none
def AV.toD : AV → Option D
  | .agg cs => (toLs cs).map .agg
  | x => x.toL

theorem RA.toL {k : Cfg} {w : World} {v : Value} {x : AV} {y : D} (h : RA k w v x) (hx : x.toL = some y) : RD k.I w v y := by
  cases h with
  | d h => simp [AV.toL] at hx; subst hx; exact h
  | tsl h _ => simp [AV.toL] at hx; subst hx; exact h
  | nil => simp [AV.toL] at hx; subst hx; exact .sl none 0 0 _ [] [] rfl (by simp) (by omega) (by omega) rfl (by simp) (by simp) (by simp)
  | emp => simp [AV.toL] at hx; subst hx; exact .sl _ 0 0 _ [] [] rfl (by simp) (by omega) (by omega) rfl (by simp) (by simp) (by simp)
  | _ => simp [AV.toL] at hx

theorem toLs_get : ∀ {ds : List AV} {es : List D}, toLs ds = some es → es.length = ds.length ∧ ∀ (i : Nat) (d : AV), ds[i]? = some d → ∃ e, es[i]? = some e ∧ d.toL = some e
  | [], es, h => by simp [toLs] at h; subst h; simp
  | x :: l, es, h => by
    unfold toLs at h
    cases hx : x.toL with
    | none => simp [hx] at h
    | some y =>
      cases hl : toLs l with
      | none => simp [hx, hl] at h
      | some l' =>
        simp [hx, hl] at h
        subst h
        obtain ⟨h1, h2⟩ := toLs_get hl
        refine ⟨by simp [h1], fun i d hd => ?_⟩
        cases i with
        | zero => simp at hd; subst hd; exact ⟨y, rfl, hx⟩
        | succ i => exact h2 i d (by simpa using hd)

theorem RAs.toLs {k : Cfg} {w : World} {us : List Value} {ds : List AV} {es : List D} (h : RAs k w us ds) (he : Bb.toLs ds = some es) : RDs k.I w us es := by
  obtain ⟨h1, h2⟩ := toLs_get he
  refine ⟨h.1.trans h1.symm, h.2.1, fun i u e hu hee => ?_⟩
  obtain ⟨hi, _⟩ := List.getElem?_eq_some_iff.1 hee
  have hd : ds[i]? = some ds[i] := List.getElem?_eq_getElem (by omega)
  obtain ⟨e', h3, h4⟩ := h2 i _ hd
  rw [hee] at h3
  obtain rfl := Option.some.inj h3
  exact (h.2.2 i u _ hu hd).toL h4

theorem RA.toD {k : Cfg} {w : World} {v : Value} {x : AV} {y : D} (h : RA k w v x) (hx : x.toD = some y) : RD k.I w v y := by
  by_cases ha : ∃ cs, x = .agg cs
  · obtain ⟨cs, rfl⟩ := ha
    obtain ⟨us, rfl, h2⟩ := h.agg_inv
    unfold AV.toD at hx
    obtain ⟨es, hc, rfl⟩ := Option.map_eq_some_iff.1 hx
    have h3 := h2.toLs hc
    exact .agg us es h3.1 h3.2.1 h3.2.2
  · refine h.toL ?_
    cases x with
    | agg cs => exact absurd ⟨cs, rfl⟩ ha
    | _ => exact hx

/-- One cell's. -/
def AV.leaf : AV → Bool
  | .d x => x.leaf
  | .agg _ | .tup _ => false
  | _ => true

theorem RA.leaf {k : Cfg} {w : World} {v : Value} {x : AV} (h : RA k w v x) (hl : x.leaf = true) : v.oneCell' = true := by
  cases h with
  | d h => exact RD.leaf h hl
  | tsl h _ => exact RD.leaf h rfl
  | vec h _ => obtain ⟨a, c, rfl⟩ := h; rfl
  | vwn h _ => obtain ⟨a, c, rfl⟩ := h; rfl
  | agg => cases hl
  | tup => cases hl
  | _ => rfl

/-- The cells of what a slot holds. -/
def AV.cells : AV → Option (List AV)
  | .agg cs => some cs
  | .d (.agg ds) => some (ds.map .d)
  | x => if x.leaf then some [x] else none

theorem RA.cells {k : Cfg} {w : World} {v : Value} {x : AV} {cs : List AV} (h : RA k w v x) (hx : x.cells = some cs) : RAs k w v.cells.toList cs := by
  have leaf : ∀ y : AV, RA k w v y → (if y.leaf then some [y] else none) = some cs → RAs k w v.cells.toList cs := by
    intro y hy hl
    cases hb : y.leaf with
    | false => simp [hb] at hl
    | true =>
      simp [hb] at hl; subst hl
      have h2 := hy.leaf hb
      have : v.cells = #[v] := by cases v <;> first | rfl | simp [Value.oneCell'] at h2
      rw [this]
      refine ⟨rfl, fun u hu => ?_, fun i u d hu hd => ?_⟩
      · simp at hu; subst hu; exact h2
      · cases i with
        | zero => simp at hu hd; subst hu; subst hd; exact hy
        | succ i => simp at hd
  cases x with
  | agg cs' =>
    simp [AV.cells] at hx; subst hx
    obtain ⟨us, rfl, h2⟩ := h.agg_inv
    simpa [Value.cells] using h2
  | d x =>
    cases x with
    | agg ds =>
      simp [AV.cells] at hx; subst hx
      have h' := h.d_inv
      cases h' with
      | agg us ds h1 h2 h3 => simpa [Value.cells] using RDs.toA (k := k) ⟨h1, h2, h3⟩
    | _ => exact leaf _ h hx
  | _ => exact leaf _ h hx

/-- A struct's cells. -/
def AV.row : AV → Option (List AV)
  | .agg cs => some cs
  | .d (.agg ds) => some (ds.map .d)
  | _ => none

theorem RA.row {k : Cfg} {w : World} {v : Value} {x : AV} {cs : List AV} (h : RA k w v x) (hx : x.row = some cs) : ∃ us, v = .agg us.toArray ∧ RAs k w us cs := by
  cases x with
  | agg cs' => simp [AV.row] at hx; subst hx; exact h.agg_inv
  | d x =>
    cases x with
    | agg ds =>
      simp [AV.row] at hx; subst hx
      have h' := h.d_inv
      cases h' with
      | agg us ds h1 h2 h3 => exact ⟨us, rfl, RDs.toA (k := k) ⟨h1, h2, h3⟩⟩
    | _ => simp [AV.row] at hx
  | _ => simp [AV.row] at hx
end Go.Bb
