/-
  Part AbA of this claim's proof. Joined by merge.py from the texts of wip/tpl.
-/
import Derived.Test.YtclholnhkhjjaaaGreatAb1
import Derived.Laws.Tables
import Derived.Laws.StructEq
import Derived.Lib.SliceRun
set_option linter.unusedVariables false
set_option linter.unusedSimpArgs false
set_option linter.unnecessarySimpa false
namespace Go.Ab
open Go Go.RowKit

/-- What a slot holds: data; a row of the call's own that may grow; no row at all; a pointer into an own variable; a row of the call's own that may grow and be written; a pointer into such a one; a struct of these. -/
inductive AV where
  | d (x : D)
  | tsl (id sz : Nat) (rows : List (List D))
  | nil (sz : Nat)
  | ptr (id off : Nat)
  | vec (id n sz : Nat)
  | vptr (id n off : Nat)
  | agg (cs : List AV)
  deriving Inhabited

/-- An own block: a variable's cells; a row of so many elements. -/
inductive AObj where
  | cells (ds : List AV)
  | row (e sz n : Nat)
  | vec (e sz : Nat) (ds : List AV)
  deriving Inhabited

inductive Own where
  | blk (b : Nat)
  | row (v : Value) (n : Nat)

def Own.block : Own → Option Nat
  | .blk b => some b
  | .row v _ => v.ownBlock

structure Cfg where
  I : Nat → Nat
  own : List Own

def OwnLe : Own → Own → Prop
  | .blk b, o => o = .blk b
  | .row v n, o => ∃ v' n', o = .row v' n' ∧ ((v' = v ∧ n' = n) ∨ n < n')

theorem OwnLe.refl (o : Own) : OwnLe o o := by
  cases o with
  | blk b => rfl
  | row v n => exact ⟨_, _, rfl, .inl ⟨rfl, rfl⟩⟩
theorem OwnLe.trans {a b c : Own} (h : OwnLe a b) (k : OwnLe b c) : OwnLe a c := by
  cases a with
  | blk x => obtain rfl : b = .blk x := h; exact k
  | row v n =>
    obtain ⟨v', n', rfl, h⟩ := h
    obtain ⟨v'', n'', rfl, k⟩ := k
    refine ⟨_, _, rfl, ?_⟩
    rcases h with ⟨rfl, rfl⟩ | h
    · exact k
    · rcases k with ⟨rfl, rfl⟩ | k
      · exact .inr h
      · exact .inr (by omega)

/-- What a step leaves: below block B all is as it was; what was never to be written again stays; own blocks stay own blocks. -/
structure Ext (B : Nat) (k : Cfg) (w : World) (k' : Cfg) (w' : World) : Prop where
  below : Below B w w'
  keep : KeepI k.I w k'.I w'
  low : ∀ b, b < B → k'.I b = k.I b
  own : ∀ (id : Nat) (o : Own), k.own[id]? = some o → ∃ o', k'.own[id]? = some o' ∧ OwnLe o o'

theorem Ext.refl (B : Nat) (k : Cfg) (w : World) : Ext B k w k w := ⟨Below.refl _ _, KeepI.refl _ _, fun _ _ => rfl, fun _ o h => ⟨o, h, OwnLe.refl o⟩⟩
theorem Ext.trans {B : Nat} {k k' k'' : Cfg} {w w' w'' : World} (h : Ext B k w k' w') (g : Ext B k' w' k'' w'') : Ext B k w k'' w'' :=
  ⟨h.below.trans g.below, h.keep.trans g.keep, fun b hb => (g.low b hb).trans (h.low b hb), fun id o ho => by
    obtain ⟨o', h1, h2⟩ := h.own id o ho
    obtain ⟨o'', k1, k2⟩ := g.own id o' h1
    exact ⟨o'', k1, h2.trans k2⟩⟩

/-- A value of one cell stands for what a slot holds. -/
def RL (k : Cfg) (w : World) (v : Value) : AV → Prop
  | .d x => RD k.I w v x
  | .tsl id sz rows => RD k.I w v (.sl sz rows) ∧ ∃ u n, k.own[id]? = some (.row u n) ∧ rows.length ≤ n ∧ (rows.length = n → v = u)
  | .nil _ => v = .slice none 0 0
  | .ptr id off => ∃ b, k.own[id]? = some (.blk b) ∧ v = .pointer (some ⟨b, off, none⟩)
  | .vec id n _ => (∃ a c, v = .slice a n c) ∧ ∃ u n', k.own[id]? = some (.row u n') ∧ n ≤ n' ∧ (n = n' → v = u)
  | .vptr id n off => ∃ b, v = .pointer (some ⟨b, off, none⟩) ∧ ∃ u n', k.own[id]? = some (.row u n') ∧ n ≤ n' ∧ (n = n' → u.ownBlock = some b)
  | .agg _ => False

theorem RL.mono {B : Nat} {k k' : Cfg} {w w' : World} (he : Ext B k w k' w') {v : Value} {x : AV} (h : RL k w v x) : RL k' w' v x := by
  cases x with
  | d x => exact RD.mono h he.keep
  | tsl id sz rows =>
    obtain ⟨h1, u, n, h2, h3, h4⟩ := h
    obtain ⟨o', h5, v', n', rfl, h6⟩ := he.own id _ h2
    refine ⟨h1.mono he.keep, v', n', h5, ?_⟩
    rcases h6 with ⟨rfl, rfl⟩ | h6
    · exact ⟨h3, h4⟩
    · exact ⟨by omega, fun e => by omega⟩
  | nil sz => exact h
  | ptr id off =>
    obtain ⟨b, h1, h2⟩ := h
    obtain ⟨o', h5, rfl⟩ := he.own id _ h1
    exact ⟨b, h5, h2⟩
  | vec id n sz =>
    obtain ⟨h0, u, n1, h2, h3, h4⟩ := h
    obtain ⟨o', h5, v', n', rfl, h6⟩ := he.own id _ h2
    refine ⟨h0, v', n', h5, ?_⟩
    rcases h6 with ⟨rfl, rfl⟩ | h6
    · exact ⟨h3, h4⟩
    · exact ⟨by omega, fun e => by omega⟩
  | vptr id n off =>
    obtain ⟨b, hb, u, n1, h2, h3, h4⟩ := h
    obtain ⟨o', h5, v', n', rfl, h6⟩ := he.own id _ h2
    refine ⟨b, hb, v', n', h5, ?_⟩
    rcases h6 with ⟨rfl, rfl⟩ | h6
    · exact ⟨h3, h4⟩
    · exact ⟨by omega, fun e => by omega⟩
  | agg cs => exact h

/-- Cells in a row. -/
def RAs (k : Cfg) (w : World) (us : List Value) (ds : List AV) : Prop :=
  us.length = ds.length ∧ (∀ u ∈ us, u.oneCell' = true) ∧ ∀ (i : Nat) (u : Value) (d : AV), us[i]? = some u → ds[i]? = some d → RL k w u d

theorem RAs.mono {B : Nat} {k k' : Cfg} {w w' : World} (he : Ext B k w k' w') {us : List Value} {ds : List AV} (h : RAs k w us ds) : RAs k' w' us ds :=
  ⟨h.1, h.2.1, fun i u d hu hd => (h.2.2 i u d hu hd).mono he⟩

theorem RDs.toA {k : Cfg} {w : World} {us : List Value} {ds : List D} (h : RDs k.I w us ds) : RAs k w us (ds.map .d) :=
  ⟨by simp [h.1], h.2.1, fun i u d hu hd => by
    rw [List.getElem?_map] at hd
    obtain ⟨x, hx, rfl⟩ := Option.map_eq_some_iff.1 hd
    exact h.2.2 i u x hu hx⟩

theorem RAs.take {k : Cfg} {w : World} {us : List Value} {ds : List AV} (h : RAs k w us ds) (n : Nat) : RAs k w (us.take n) (ds.take n) := by
  refine ⟨by simp [h.1], fun u hu => h.2.1 u (List.mem_of_mem_take hu), fun i u d hu hd => ?_⟩
  rw [List.getElem?_take] at hu hd
  split at hu
  · rename_i hlt; rw [if_pos hlt] at hd; exact h.2.2 i u d hu hd
  · cases hu

theorem RAs.drop {k : Cfg} {w : World} {us : List Value} {ds : List AV} (h : RAs k w us ds) (n : Nat) : RAs k w (us.drop n) (ds.drop n) := by
  refine ⟨by simp [h.1], fun u hu => h.2.1 u (List.mem_of_mem_drop hu), fun i u d hu hd => ?_⟩
  rw [List.getElem?_drop] at hu hd
  exact h.2.2 _ u d hu hd

theorem RAs.append {k : Cfg} {w : World} {us us' : List Value} {ds ds' : List AV} (h : RAs k w us ds) (g : RAs k w us' ds') : RAs k w (us ++ us') (ds ++ ds') := by
  refine ⟨by simp [h.1, g.1], fun u hu => ?_, fun i u d hu hd => ?_⟩
  · rcases List.mem_append.1 hu with hu | hu
    · exact h.2.1 u hu
    · exact g.2.1 u hu
  · rw [List.getElem?_append] at hu hd
    rw [h.1] at hu
    split at hu
    · rename_i hlt; rw [if_pos hlt] at hd; exact h.2.2 i u d hu hd
    · rename_i hlt; rw [if_neg hlt] at hd; exact g.2.2 _ u d hu hd

theorem RAs.get {k : Cfg} {w : World} {us : List Value} {ds : List AV} (h : RAs k w us ds) {i : Nat} {d : AV} (hd : ds[i]? = some d) : ∃ u, us[i]? = some u ∧ u.oneCell' = true ∧ RL k w u d := by
  have hi := (List.getElem?_eq_some_iff.1 hd).1
  have : i < us.length := by rw [h.1]; exact hi
  exact ⟨us[i], List.getElem?_eq_getElem this, h.2.1 _ (List.getElem_mem _), h.2.2 i _ d (List.getElem?_eq_getElem this) hd⟩

theorem RAs.set {k : Cfg} {w : World} {us : List Value} {ds : List AV} (h : RAs k w us ds) {u : Value} {d : AV} (g : RL k w u d) (hl : u.oneCell' = true) (i : Nat) : RAs k w (us.set i u) (ds.set i d) := by
  refine ⟨by simp [h.1], fun x hx => ?_, fun j x y hx hy => ?_⟩
  · rcases List.mem_or_eq_of_mem_set hx with hx | hx
    · exact h.2.1 x hx
    · subst hx; exact hl
  · rw [List.getElem?_set] at hx hy
    split at hx
    · rename_i e
      rw [if_pos e] at hy
      split at hx
      · split at hy
        · obtain rfl := Option.some.inj hx; obtain rfl := Option.some.inj hy; exact g
        · cases hy
      · cases hx
    · rename_i e; rw [if_neg e] at hy; exact h.2.2 j x y hx hy

/-- A value stands for what a slot holds. -/
def RA (k : Cfg) (w : World) (v : Value) : AV → Prop
  | .agg cs => ∃ us, v = .agg us.toArray ∧ RAs k w us cs
  | x => RL k w v x

theorem RA.mono {B : Nat} {k k' : Cfg} {w w' : World} (he : Ext B k w k' w') {v : Value} {x : AV} (h : RA k w v x) : RA k' w' v x := by
  cases x with
  | agg cs => obtain ⟨us, h1, h2⟩ := h; exact ⟨us, h1, h2.mono he⟩
  | d x => exact RL.mono (x := .d x) he h
  | tsl id sz rows => exact RL.mono (x := .tsl id sz rows) he h
  | nil sz => exact RL.mono (x := .nil sz) he h
  | ptr id off => exact RL.mono (x := .ptr id off) he h
  | vec id n sz => exact RL.mono (x := .vec id n sz) he h
  | vptr id n off => exact RL.mono (x := .vptr id n off) he h

theorem RL.toA {k : Cfg} {w : World} {v : Value} {x : AV} (h : RL k w v x) : RA k w v x := by
  cases x with
  | agg cs => exact h.elim
  | _ => exact h

/-- The data of what a slot holds. -/
def AV.toL : AV → Option D
  | .d x => some x
  | .tsl _ sz rows => some (.sl sz rows)
  | .nil sz => some (.sl sz [])
  | _ => none
def toLs : List AV → Option (List D)
  | [] => some []
  | x :: l => match x.toL, toLs l with
    | some y, some l' => some (y :: l')
    | _, _ => none
def AV.toD : AV → Option D
  | .agg cs => match toLs cs with
    | some ds => some (.agg ds)
    | none => none
  | x => x.toL

theorem RL.toL {k : Cfg} {w : World} {v : Value} {x : AV} {y : D} (h : RL k w v x) (hx : x.toL = some y) : RD k.I w v y := by
  cases x <;> simp [AV.toL] at hx <;> subst hx
  · exact h
  · exact h.1
  · obtain rfl : v = _ := h
    exact .sl none 0 0 _ [] [] rfl (by simp) (by omega) (by omega) rfl (by simp) (by simp) (by simp)

theorem toLs_get : ∀ {ds : List AV} {es : List D}, toLs ds = some es → es.length = ds.length ∧ ∀ (i : Nat) (d : AV), ds[i]? = some d → ∃ e, es[i]? = some e ∧ d.toL = some e
  | [], es, h => by simp [toLs] at h; subst h; simp
  | x :: l, es, h => by
    unfold toLs at h
    cases hx : x.toL with
    | none => simp [hx] at h
    | some y =>
      cases hl : toLs l with
      | none => simp [hx, hl] at h
      | some l' =>
        simp [hx, hl] at h
        subst h
        obtain ⟨h1, h2⟩ := toLs_get hl
        refine ⟨by simp [h1], fun i d hd => ?_⟩
        cases i with
        | zero => simp at hd; subst hd; exact ⟨y, rfl, hx⟩
        | succ i => exact h2 i d (by simpa using hd)

theorem RAs.toLs {k : Cfg} {w : World} {us : List Value} {ds : List AV} {es : List D} (h : RAs k w us ds) (he : Ab.toLs ds = some es) : RDs k.I w us es := by
  obtain ⟨h1, h2⟩ := toLs_get he
  refine ⟨h.1.trans h1.symm, h.2.1, fun i u e hu hee => ?_⟩
  obtain ⟨hi, _⟩ := List.getElem?_eq_some_iff.1 hee
  have hd : ds[i]? = some ds[i] := List.getElem?_eq_getElem (by omega)
  obtain ⟨e', h3, h4⟩ := h2 i _ hd
  rw [hee] at h3
  obtain rfl := Option.some.inj h3
  exact (h.2.2 i u _ hu hd).toL h4

theorem RA.toD {k : Cfg} {w : World} {v : Value} {x : AV} {y : D} (h : RA k w v x) (hx : x.toD = some y) : RD k.I w v y := by
  cases x with
  | agg cs =>
    obtain ⟨us, rfl, h2⟩ := h
    unfold AV.toD at hx
    cases hc : Ab.toLs cs with
    | none => simp [hc] at hx
    | some es =>
      simp [hc] at hx; subst hx
      have h3 := h2.toLs hc
      exact .agg us es h3.1 h3.2.1 h3.2.2
  | d x => exact RL.toL (x := .d x) h hx
  | tsl id sz rows => exact RL.toL (x := .tsl id sz rows) h hx
  | nil sz => exact RL.toL (x := .nil sz) h hx
  | ptr id off => exact RL.toL (x := .ptr id off) h hx
  | vec id n sz => exact RL.toL (x := .vec id n sz) h hx
  | vptr id n off => exact RL.toL (x := .vptr id n off) h hx

/-- One cell's. -/
def AV.leaf : AV → Bool
  | .d x => x.leaf
  | .agg _ => false
  | _ => true

theorem RA.leaf {k : Cfg} {w : World} {v : Value} {x : AV} (h : RA k w v x) (hl : x.leaf = true) : RL k w v x ∧ v.oneCell' = true := by
  cases x with
  | agg cs => cases hl
  | d x => exact ⟨h, RD.leaf h hl⟩
  | tsl id sz rows => exact ⟨h, RD.leaf h.1 rfl⟩
  | nil sz => obtain rfl : v = _ := h; exact ⟨rfl, rfl⟩
  | ptr id off => obtain ⟨b, h1, rfl⟩ := h; exact ⟨⟨b, h1, rfl⟩, rfl⟩
  | vec id n sz => obtain ⟨⟨a, c, rfl⟩, h1⟩ := h; exact ⟨⟨⟨a, c, rfl⟩, h1⟩, rfl⟩
  | vptr id n off => obtain ⟨b, rfl, h1⟩ := h; exact ⟨⟨b, rfl, h1⟩, rfl⟩

/-- The cells of what a slot holds. -/
def AV.cells : AV → Option (List AV)
  | .agg cs => some cs
  | .d (.agg ds) => some (ds.map .d)
  | x => if x.leaf then some [x] else none

theorem RA.cells {k : Cfg} {w : World} {v : Value} {x : AV} {cs : List AV} (h : RA k w v x) (hx : x.cells = some cs) : RAs k w v.cells.toList cs := by
  have leaf : ∀ y : AV, RA k w v y → (if y.leaf then some [y] else none) = some cs → RAs k w v.cells.toList cs := by
    intro y hy hl
    cases hb : y.leaf with
    | false => simp [hb] at hl
    | true =>
      simp [hb] at hl; subst hl
      obtain ⟨h1, h2⟩ := hy.leaf hb
      have : v.cells = #[v] := by cases v <;> first | rfl | simp [Value.oneCell'] at h2
      rw [this]
      refine ⟨rfl, fun u hu => ?_, fun i u d hu hd => ?_⟩
      · simp at hu; subst hu; exact h2
      · cases i with
        | zero => simp at hu hd; subst hu; subst hd; exact h1
        | succ i => simp at hd
  cases x with
  | agg cs' =>
    simp [AV.cells] at hx; subst hx
    obtain ⟨us, rfl, h2⟩ := h
    simpa [Value.cells] using h2
  | d x =>
    cases x with
    | agg ds =>
      simp [AV.cells] at hx; subst hx
      have h' : RD k.I w v (.agg ds) := h
      cases h' with
      | agg us ds h1 h2 h3 =>
        simpa [Value.cells] using RDs.toA (k := k) ⟨h1, h2, h3⟩
    | _ => exact leaf _ h hx
  | _ => exact leaf _ h hx

/-- A struct's cells. -/
def AV.row : AV → Option (List AV)
  | .agg cs => some cs
  | .d (.agg ds) => some (ds.map .d)
  | _ => none

theorem RA.row {k : Cfg} {w : World} {v : Value} {x : AV} {cs : List AV} (h : RA k w v x) (hx : x.row = some cs) : ∃ us, v = .agg us.toArray ∧ RAs k w us cs := by
  cases x with
  | agg cs' => simp [AV.row] at hx; subst hx; exact h
  | d x =>
    cases x with
    | agg ds =>
      simp [AV.row] at hx; subst hx
      have h' : RD k.I w v (.agg ds) := h
      cases h' with
      | agg us ds h1 h2 h3 => exact ⟨us, rfl, RDs.toA (k := k) ⟨h1, h2, h3⟩⟩
    | _ => simp [AV.row] at hx
  | _ => simp [AV.row] at hx

/-- The memory stands for the own blocks. -/
structure St (B : Nat) (k : Cfg) (s : List AObj) (w : World) : Prop where
  base : B ≤ w.heap.size
  len : k.own.length = s.length
  cells : ∀ (id : Nat) (ds : List AV), s[id]? = some (.cells ds) → ∃ b t us, k.own[id]? = some (.blk b) ∧ w.heap[b]? = some (.cells us.toArray t (0, 0)) ∧ RAs k w us ds
  row : ∀ (id e sz n : Nat), s[id]? = some (.row e sz n) → ∃ v xs, k.own[id]? = some (.row v n) ∧ w.ownsRow B e sz v n xs ∧ ∀ g, v.ownBlock = some g → k.I g = n * sz
  vec : ∀ (id e sz : Nat) (ds : List AV), s[id]? = some (.vec e sz ds) → ∃ v n xs, k.own[id]? = some (.row v n) ∧ w.ownsRow B e sz v n xs ∧ (∀ g, v.ownBlock = some g → k.I g = 0) ∧ ds.length = n * sz ∧ RAs k w xs ds
  lies : ∀ (id : Nat) (o : Own) (b : Nat), k.own[id]? = some o → o.block = some b → B ≤ b ∧ b < w.heap.size
  blkI : ∀ (id b : Nat), k.own[id]? = some (.blk b) → k.I b = 0
  apart : ∀ (i j : Nat) (o o' : Own) (b : Nat), i ≠ j → k.own[i]? = some o → k.own[j]? = some o' → o.block = some b → o'.block ≠ some b

/-- A step that leaves all own blocks as they lie. -/
theorem St.same {B : Nat} {k k' : Cfg} {s : List AObj} {w w' : World} (h : St B k s w) (he : Ext B k w k' w') (hown : k'.own = k.own)
    (hb : ∀ b, b < w.heap.size → B ≤ b → w'.heap[b]? = w.heap[b]?) (hI : ∀ b, b < w.heap.size → k'.I b = k.I b) : St B k' s w' := by
  have hsz := he.below.size
  refine ⟨Nat.le_trans h.base hsz, by rw [hown]; exact h.len, fun id ds hs => ?_, fun id e sz n hs => ?_, fun id e sz ds hs => ?_, fun id o b ho hob => ?_, fun id b ho => ?_, fun i j o o' b hij ho ho' => ?_⟩
  · obtain ⟨b, t, us, h1, h2, h3⟩ := h.cells id ds hs
    obtain ⟨l1, l2⟩ := h.lies id _ b h1 rfl
    exact ⟨b, t, us, by rw [hown]; exact h1, by rw [hb b l2 l1]; exact h2, h3.mono he⟩
  · obtain ⟨v, xs, h1, h2, h3⟩ := h.row id e sz n hs
    refine ⟨v, xs, by rw [hown]; exact h1, ⟨h2.1, ?_⟩, fun g hg => ?_⟩
    · rcases h2.2 with e1 | ⟨g, cap, cur, e1, e2, e3, e4⟩
      · exact .inl e1
      · exact .inr ⟨g, cap, cur, e1, e2, by rw [hb g (Array.getElem?_eq_some_iff.1 e3).1 e2]; exact e3, e4⟩
    · rw [hI g (h.lies id _ g h1 hg).2]; exact h3 g hg
  · obtain ⟨v, n, xs, h1, h2, h3, h4, h5⟩ := h.vec id e sz ds hs
    refine ⟨v, n, xs, by rw [hown]; exact h1, ⟨h2.1, ?_⟩, fun g hg => ?_, h4, h5.mono he⟩
    · rcases h2.2 with e1 | ⟨g, cap, cur, e1, e2, e3, e4⟩
      · exact .inl e1
      · exact .inr ⟨g, cap, cur, e1, e2, by rw [hb g (Array.getElem?_eq_some_iff.1 e3).1 e2]; exact e3, e4⟩
    · rw [hI g (h.lies id _ g h1 hg).2]; exact h3 g hg
  · rw [hown] at ho
    obtain ⟨l1, l2⟩ := h.lies id o b ho hob
    exact ⟨l1, by omega⟩
  · rw [hown] at ho
    rw [hI b (h.lies id _ b ho rfl).2]; exact h.blkI id b ho
  · rw [hown] at ho ho'
    exact h.apart i j o o' b hij ho ho'

theorem Ext.drew (B : Nat) (k : Cfg) (w : World) : Ext B k w k w.drew := ⟨(Below.refl _ _).drew, fun _ _ _ h hc => ⟨h, hc⟩, fun _ _ => rfl, fun _ o h => ⟨o, h, OwnLe.refl o⟩⟩
theorem St.drew {B : Nat} {k : Cfg} {s : List AObj} {w : World} (h : St B k s w) : St B k s w.drew := h.same (Ext.drew B k w) rfl (fun _ _ _ => rfl) (fun _ _ => rfl)

def updI (I : Nat → Nat) (n x : Nat) : Nat → Nat := fun b => if b = n then x else I b
theorem updI_self (I : Nat → Nat) (n x : Nat) : updI I n x n = x := by simp [updI]
theorem updI_ne (I : Nat → Nat) {n b : Nat} (x : Nat) (h : b ≠ n) : updI I n x b = I b := by simp [updI, h]

theorem cell_none_lt {w : World} {b o : Nat} {u : Value} (h : w.cell? ⟨b, o, none⟩ = some u) : b < w.heap.size := World.block_lt_of_cell? w _ h

/-- Blocks from B on are made; all older ones lie as they lay. -/
theorem Ext.fresh {B : Nat} {k : Cfg} {w w' : World} (hbase : B ≤ w.heap.size) (hb : Below w.heap.size w w') {I' : Nat → Nat} (hI : ∀ b, b < w.heap.size → I' b = k.I b) (own' : List Own) (ho : ∀ (id : Nat) (o : Own), k.own[id]? = some o → ∃ o', own'[id]? = some o' ∧ OwnLe o o') :
    Ext B k w ⟨I', own'⟩ w' :=
  ⟨hb.mono hbase, fun b o u h hc => by
    have hlt := cell_none_lt hc
    exact ⟨by show o < I' b; rw [hI b hlt]; exact h, (hb.cell (p := ⟨b, o, none⟩) hlt).trans hc⟩, fun b h => hI b (by omega), ho⟩

/-- A call that leaves the memory as it was, but for new blocks: these are never written again. -/
def cellsIn (w : World) (b : Nat) : Nat := match w.heap[b]? with
  | some (.cells c _ _) => c.size
  | _ => 0
theorem lt_cellsIn {w : World} {b o : Nat} {u : Value} (h : w.cell? ⟨b, o, none⟩ = some u) : o < cellsIn w b := by
  unfold World.cell? at h
  unfold cellsIn
  dsimp only at h
  split at h
  · rename_i c _ _ hc
    rw [hc]
    simp at h
    exact (Array.getElem?_eq_some_iff.1 h).1
  · cases h
def bigI (I : Nat → Nat) (n : Nat) (w' : World) : Nat → Nat := fun b => if b < n then I b else cellsIn w' b
theorem bigI_lt (I : Nat → Nat) {n b : Nat} (w' : World) (h : b < n) : bigI I n w' b = I b := by simp [bigI, h]

theorem Ext.called {B : Nat} {k : Cfg} {w w' : World} (hbase : B ≤ w.heap.size) (hb : Below w.heap.size w w') : Ext B k w ⟨bigI k.I w.heap.size w', k.own⟩ w' :=
  Ext.fresh hbase hb (fun _ h => bigI_lt _ _ h) _ fun _ o h => ⟨o, h, OwnLe.refl o⟩
theorem St.called {B : Nat} {k : Cfg} {s : List AObj} {w w' : World} (h : St B k s w) (hb : Below w.heap.size w w') : St B ⟨bigI k.I w.heap.size w', k.own⟩ s w' :=
  h.same (Ext.called h.base hb) rfl (fun b hlt _ => hb.block b hlt) fun _ hlt => bigI_lt _ _ hlt

theorem getElem?_snoc {α : Type} {l : List α} {x : α} {i : Nat} {y : α} (h : (l ++ [x])[i]? = some y) : l[i]? = some y ∨ (i = l.length ∧ y = x) := by
  rw [List.getElem?_append] at h
  split at h
  · exact .inl h
  · rename_i hlt
    right
    have : i - l.length = 0 := by
      rcases Nat.eq_zero_or_pos (i - l.length) with e | e
      · exact e
      · rw [List.getElem?_eq_none (by simp; omega)] at h; cases h
    rw [this] at h
    simp at h
    exact ⟨by omega, h.symm⟩

theorem getElem?_snoc_old {α : Type} {l : List α} (x : α) {i : Nat} {y : α} (h : l[i]? = some y) : (l ++ [x])[i]? = some y := by
  rw [List.getElem?_append_left (List.getElem?_eq_some_iff.1 h).1]; exact h

/-- A new own block. -/
theorem St.new {B : Nat} {k : Cfg} {s : List AObj} {w w' : World} (h : St B k s w) (hb : Below w.heap.size w w') (hsz : w.heap.size < w'.heap.size) (x : Nat) (o : Own) (ob : AObj) (hob : o.block = some w.heap.size)
    (hx : ∀ b, o = .blk b → x = 0)
    (hc : ∀ ds, ob = .cells ds → ∃ t us, o = .blk w.heap.size ∧ w'.heap[w.heap.size]? = some (.cells us.toArray t (0, 0)) ∧ RAs ⟨updI k.I w.heap.size x, k.own ++ [o]⟩ w' us ds)
    (hr : ∀ e sz n, ob = .row e sz n → ∃ v xs, o = .row v n ∧ w'.ownsRow B e sz v n xs ∧ x = n * sz)
    (hv : ∀ e sz ds, ob = .vec e sz ds → ∃ v n xs, o = .row v n ∧ w'.ownsRow B e sz v n xs ∧ x = 0 ∧ ds.length = n * sz ∧ RAs ⟨updI k.I w.heap.size x, k.own ++ [o]⟩ w' xs ds) :
    Ext B k w ⟨updI k.I w.heap.size x, k.own ++ [o]⟩ w' ∧ St B ⟨updI k.I w.heap.size x, k.own ++ [o]⟩ (s ++ [ob]) w' := by
  have hI : ∀ b, b < w.heap.size → updI k.I w.heap.size x b = k.I b := fun b hb => updI_ne _ _ (by omega)
  have he : Ext B k w ⟨updI k.I w.heap.size x, k.own ++ [o]⟩ w' := Ext.fresh h.base hb hI _ fun id o' ho => ⟨o', getElem?_snoc_old _ ho, OwnLe.refl _⟩
  refine ⟨he, Nat.le_trans h.base hb.size, by simp [h.len], fun id ds hs => ?_, fun id e sz n hs => ?_, fun id e sz ds hs => ?_, fun id o' b ho hob' => ?_, fun id b ho => ?_, fun i j o1 o2 b hij ho1 ho2 hb1 hb2 => ?_⟩
  · rcases getElem?_snoc hs with hs2 | ⟨rfl, hs2⟩
    · obtain ⟨b, t, us, h1, h2, h3⟩ := h.cells id ds hs2
      exact ⟨b, t, us, getElem?_snoc_old _ h1, by rw [hb.block b (h.lies id _ b h1 rfl).2]; exact h2, h3.mono he⟩
    · obtain ⟨t, us, ho2, h2, h3⟩ := hc ds hs2.symm
      exact ⟨_, t, us, by rw [← h.len]; simp [ho2], h2, h3⟩
  · rcases getElem?_snoc hs with hs2 | ⟨rfl, hs2⟩
    · obtain ⟨v, xs, h1, h2, h3⟩ := h.row id e sz n hs2
      refine ⟨v, xs, getElem?_snoc_old _ h1, ⟨h2.1, ?_⟩, fun g hg => ?_⟩
      · rcases h2.2 with e1 | ⟨g, cap, cur, e1, e2, e3, e4⟩
        · exact .inl e1
        · exact .inr ⟨g, cap, cur, e1, e2, by rw [hb.block g (Array.getElem?_eq_some_iff.1 e3).1]; exact e3, e4⟩
      · show updI k.I _ _ g = _
        rw [hI g (h.lies id _ g h1 hg).2]; exact h3 g hg
    · obtain ⟨v, xs, ho2, h2, h3⟩ := hr e sz n hs2.symm
      refine ⟨v, xs, by rw [← h.len]; simp [ho2], h2, fun g hg => ?_⟩
      have : some g = some w.heap.size := by rw [← hob, ho2]; exact hg.symm
      obtain rfl := Option.some.inj this
      show updI k.I _ _ _ = _
      rw [updI_self, h3]
  · rcases getElem?_snoc hs with hs2 | ⟨rfl, hs2⟩
    · obtain ⟨v, n, xs, h1, h2, h3, h4, h5⟩ := h.vec id e sz ds hs2
      refine ⟨v, n, xs, getElem?_snoc_old _ h1, ⟨h2.1, ?_⟩, fun g hg => ?_, h4, h5.mono he⟩
      · rcases h2.2 with e1 | ⟨g, cap, cur, e1, e2, e3, e4⟩
        · exact .inl e1
        · exact .inr ⟨g, cap, cur, e1, e2, by rw [hb.block g (Array.getElem?_eq_some_iff.1 e3).1]; exact e3, e4⟩
      · show updI k.I _ _ g = _
        rw [hI g (h.lies id _ g h1 hg).2]; exact h3 g hg
    · obtain ⟨v, n, xs, ho2, h2, h3, h4, h5⟩ := hv e sz ds hs2.symm
      refine ⟨v, n, xs, by rw [← h.len]; simp [ho2], h2, fun g hg => ?_, h4, h5⟩
      have : some g = some w.heap.size := by rw [← hob, ho2]; exact hg.symm
      obtain rfl := Option.some.inj this
      show updI k.I _ _ _ = _
      rw [updI_self, h3]
  · rcases getElem?_snoc ho with ho2 | ⟨rfl, rfl⟩
    · obtain ⟨l1, l2⟩ := h.lies id o' b ho2 hob'
      exact ⟨l1, by omega⟩
    · rw [hob] at hob'; obtain rfl := Option.some.inj hob'; exact ⟨h.base, hsz⟩
  · rcases getElem?_snoc ho with ho2 | ⟨rfl, ho2⟩
    · show updI k.I _ _ b = _
      rw [hI b (h.lies id _ b ho2 rfl).2]; exact h.blkI id b ho2
    · have : some b = some w.heap.size := by rw [← hob, ← ho2]; rfl
      obtain rfl := Option.some.inj this
      show updI k.I _ _ _ = _
      rw [updI_self, hx _ ho2.symm]
  · rcases getElem?_snoc ho1 with ho3 | ⟨rfl, rfl⟩ <;> rcases getElem?_snoc ho2 with ho4 | ⟨rfl, rfl⟩
    · exact h.apart i j o1 o2 b hij ho3 ho4 hb1 hb2
    · have := (h.lies i o1 b ho3 hb1).2
      rw [hob] at hb2; obtain rfl := Option.some.inj hb2; omega
    · have := (h.lies j o2 b ho4 hb2).2
      rw [hob] at hb1; obtain rfl := Option.some.inj hb1; omega
    · exact hij rfl
end Go.Ab

namespace Go.Ab
open Go Go.RowKit

abbrev Fr := List (Nat × AV)
def look : Fr → Nat → Option AV
  | [], _ => none
  | (u, x) :: r, t => if u = t then some x else look r t
def putF (fr : Fr) : Option Nat → AV → Fr
  | none, _ => fr
  | some t, x => (t, x) :: fr
def undefA : AV := .d (.sc undef)

/-- The slots hold what the frame says. -/
def FR (k : Cfg) (w : World) (a : Act) (fr : Fr) : Prop := ∀ t x, look fr t = some x → RA k w (a.tmps.getD t undef) x

theorem FR.mono {B : Nat} {k k' : Cfg} {w w' : World} (he : Ext B k w k' w') {a : Act} {fr : Fr} (h : FR k w a fr) : FR k' w' a fr := fun t x hx => (h t x hx).mono he

theorem getD_put (a : Act) (d : Nat) (v : Value) (hd : d < a.tmps.size) (t : Nat) : (a.put (some d) v).tmps.getD t undef = if d = t then v else a.tmps.getD t undef := by
  simp only [Act.put]
  by_cases h : d = t
  · subst h; simp [hd]
  · rw [if_neg h]; simp [Array.getElem?_setIfInBounds_ne h]

theorem FR.put {k : Cfg} {w : World} {a : Act} {fr : Fr} (h : FR k w a fr) {v : Value} {x : AV} (hx : RA k w v x) {dst : Option Nat} (hd : ∀ d, dst = some d → d < a.tmps.size) : FR k w (a.put dst v) (putF fr dst x) := by
  cases dst with
  | none => exact h
  | some d =>
    intro t y hy
    rw [getD_put a d v (hd d rfl) t]
    unfold putF look at hy
    split at hy
    · rename_i e; rw [if_pos e]; obtain rfl := Option.some.inj hy; exact hx
    · rename_i e; rw [if_neg e]; exact h t y hy

theorem put_size (a : Act) (dst : Option Nat) (v : Value) : (a.put dst v).tmps.size = a.tmps.size := by cases dst <;> simp [Act.put]
theorem put_defers' (a : Act) (dst : Option Nat) (v : Value) : (a.put dst v).defers = a.defers := by cases dst <;> rfl

/-- The operands of an operation hold what the frame says. -/
def Ops (k : Cfg) (w : World) (a : Act) (o : Oper) (fr : Fr) : Prop := ∀ t x, Operand.tmp t ∈ o.op.operands → look fr t = some x → RA k w (a.tmps.getD t undef) x
theorem FR.ops {k : Cfg} {w : World} {a : Act} {fr : Fr} (h : FR k w a fr) (o : Oper) : Ops k w a o fr := fun t x _ hx => h t x hx

/-- What an operation does, in whatever surroundings: it yields a value and a memory. -/
def OpWp (P : Program) (o : Oper) (a : Act) (w : World) (Q : Value → World → Prop) : Prop :=
  ∀ QQ : Exit → Act → World → Prop, o.wp P a w (fun a' w' => ∃ v, a' = a.put o.dst v ∧ Q v w') QQ

/-- An operation as data. -/
def AOp (P : Program) (o : Oper) (fr : Fr) (s : List AObj) (d : AV) (s' : List AObj) : Prop :=
  ∀ (B : Nat) (k : Cfg) (a : Act) (w : World), Ops k w a o fr → St B k s w → OpWp P o a w fun v w' => ∃ k', RA k' w' v d ∧ Ext B k w k' w' ∧ St B k' s' w'

/-- Is a guarded operation wanted? -/
def gd (ops : Array Oper) (fr : Fr) (o : Oper) : Option Bool :=
  match o.guard with
  | none => some true
  | some (j, want) => match (ops[j]?).bind (·.dst) with
    | none => some false
    | some t => match look fr t with
      | some (.d (.sc (.bool b))) => some (b == want)
      | some (.d (.sc (.tuple _))) => some false
      | _ => none

/-- The slot that a guard looks at. -/
def gslot (ops : Array Oper) (o : Oper) : Option Nat := match o.guard with
  | none => none
  | some (j, _) => (ops[j]?).bind (·.dst)

theorem gd_wanted {ops : Array Oper} {fr : Fr} {o : Oper} {b : Bool} (h : gd ops fr o = some b) {k : Cfg} {w : World} {a : Act} (hf : ∀ t x, gslot ops o = some t → look fr t = some x → RA k w (a.tmps.getD t undef) x) :
    Region.wanted o (yielded ops a.tmps) = b := by
  unfold gd at h
  unfold Region.wanted
  unfold gslot at hf
  split at h
  · rename_i hg; rw [hg]; exact Option.some.inj h
  · rename_i j want hg
    simp only [hg] at hf ⊢
    split at h
    · rename_i hn
      unfold yielded
      rw [hn]
      obtain rfl := Option.some.inj h
      rfl
    · rename_i t hn
      unfold yielded
      rw [hn]
      simp only [Option.bind_some]
      split at h
      · rename_i b' hl
        have := hf t _ hn hl
        have hv : RD k.I w (a.tmps.getD t undef) (.sc (.bool b')) := this
        generalize hu : a.tmps.getD t undef = u at hv
        cases hv
        have : a.tmps[t]? = some (.bool b') := by
          rw [Array.getD_eq_getD_getElem?] at hu
          cases hx : a.tmps[t]? with
          | none => simp [hx, undef] at hu
          | some y => simp [hx] at hu; rw [hu]
        rw [this]
        obtain rfl := Option.some.inj h
        cases b' <;> cases want <;> rfl
      · rename_i vs hl
        have := hf t _ hn hl
        have hv : RD k.I w (a.tmps.getD t undef) (.sc (.tuple vs)) := this
        generalize hu : a.tmps.getD t undef = u at hv
        cases hv
        have : a.tmps[t]? = none ∨ a.tmps[t]? = some (.tuple vs) := by
          rw [Array.getD_eq_getD_getElem?] at hu
          cases hx : a.tmps[t]? with
          | none => exact .inl rfl
          | some y => simp [hx] at hu; right; rw [hu]
        obtain rfl := Option.some.inj h
        rcases this with e | e <;> rw [e] <;> rfl
      · cases h

/-- Two stores that hold the same where both hold something. -/
def Agrees (s s2 : List AObj) : Prop := ∀ id : Nat, id < s.length → id < s2.length → s2[id]? = s[id]?
theorem Agrees.refl (s : List AObj) : Agrees s s := fun _ _ _ => rfl

/-- A list of operations in the order of the text; what each touches: 0 nothing of the own blocks, 1 it reads, 2 it writes, 3 it makes one. -/
inductive AOps (P : Program) (ops : Array Oper) : List Oper → Fr → List AObj → List Nat → Fr → List AObj → Prop
  | nil (fr : Fr) (s : List AObj) : AOps P ops [] fr s [] fr s
  | skip (o : Oper) (rest : List Oper) (fr : Fr) (s : List AObj) (fl : List Nat) (fr' : Fr) (s' : List AObj) : gd ops fr o = some false → AOps P ops rest (putF fr o.dst undefA) s fl fr' s' → AOps P ops (o :: rest) fr s (0 :: fl) fr' s'
  | free (o : Oper) (rest : List Oper) (fr : Fr) (s : List AObj) (d : AV) (fl : List Nat) (fr' : Fr) (s' : List AObj) : gd ops fr o = some true → (∀ s, AOp P o fr s d s) → AOps P ops rest (putF fr o.dst d) s fl fr' s' → AOps P ops (o :: rest) fr s (0 :: fl) fr' s'
  | reads (o : Oper) (rest : List Oper) (fr : Fr) (s : List AObj) (d : AV) (fl : List Nat) (fr' : Fr) (s' : List AObj) : gd ops fr o = some true → (∀ s2, Agrees s s2 → AOp P o fr s2 d s2) → AOps P ops rest (putF fr o.dst d) s fl fr' s' → AOps P ops (o :: rest) fr s (1 :: fl) fr' s'
  | make (o : Oper) (rest : List Oper) (fr : Fr) (s : List AObj) (d : AV) (x : AObj) (fl : List Nat) (fr' : Fr) (s' : List AObj) : gd ops fr o = some true → AOp P o fr s d (s ++ [x]) → AOps P ops rest (putF fr o.dst d) (s ++ [x]) fl fr' s' → AOps P ops (o :: rest) fr s (3 :: fl) fr' s'
  | eff (o : Oper) (rest : List Oper) (fr : Fr) (s : List AObj) (d : AV) (s1 : List AObj) (fl : List Nat) (fr' : Fr) (s' : List AObj) : gd ops fr o = some true → AOp P o fr s d s1 → AOps P ops rest (putF fr o.dst d) s1 fl fr' s' → AOps P ops (o :: rest) fr s (2 :: fl) fr' s'

/-- What the end of a walk is told. -/
def Post (B N : Nat) (k : Cfg) (w : World) (Q : Exit → Fr → List AObj → Prop) (e : Exit) (a : Act) (w' : World) : Prop :=
  ∃ fr s k', Q e fr s ∧ a.tmps.size = N ∧ a.defers = [] ∧ Ext B k w k' w' ∧ FR k' w' a fr ∧ St B k' s w'

theorem RA.undf {k : Cfg} {w : World} : RA k w undef undefA := RD.sc undef

theorem wpList_aops {P : Program} {ops : Array Oper} {N B : Nat} {l : List Oper} {fr : Fr} {s : List AObj} {fl : List Nat} {fr' : Fr} {s' : List AObj} (h : AOps P ops l fr s fl fr' s') {Q : Exit → Fr → List AObj → Prop} (hQ : Q .normal fr' s')
    (hN : ∀ o ∈ l, ∀ d, o.dst = some d → d < N) {k0 : Cfg} {w0 : World} : ∀ (k : Cfg) (a : Act) (w : World), a.tmps.size = N → a.defers = [] → FR k w a fr → St B k s w → Ext B k0 w0 k w →
    wpList P ops (Post B N k0 w0 Q) l a w := by
  induction h with
  | nil fr s => exact fun k a w ha hd hf hs he => ⟨fr, s, k, hQ, ha, hd, he, hf, hs⟩
  | skip o rest fr s fl fr' s' hg _ ih =>
    intro k a w ha hd hf hs he
    refine wpList_step fun K hK => ?_
    rw [if_neg (by rw [gd_wanted hg fun t x _ hx => hf t x hx]; simp)]
    exact hK _ _ (ih hQ (fun o ho => hN o (by simp [ho])) k _ w (by rw [put_size, ha]) (by rw [put_defers', hd]) (hf.put RA.undf (by rw [ha]; exact hN o (by simp))) hs he)
  | free o rest fr s d fl fr' s' hg ho _ ih =>
    intro k a w ha hd hf hs he
    refine wpList_step fun K hK => ?_
    rw [if_pos (gd_wanted hg fun t x _ hx => hf t x hx)]
    refine Oper.wp_mono ?_ (ho s B k a w (hf.ops o) hs _)
    rintro _ w' ⟨v, rfl, k', hv, he', hs'⟩
    exact hK _ _ (ih hQ (fun o ho => hN o (by simp [ho])) k' _ w' (by rw [put_size, ha]) (by rw [put_defers', hd]) ((hf.mono he').put hv (by rw [ha]; exact hN o (by simp))) hs' (he.trans he'))
  | reads o rest fr s d fl fr' s' hg ho _ ih =>
    intro k a w ha hd hf hs he
    refine wpList_step fun K hK => ?_
    rw [if_pos (gd_wanted hg fun t x _ hx => hf t x hx)]
    refine Oper.wp_mono ?_ (ho s (Agrees.refl s) B k a w (hf.ops o) hs _)
    rintro _ w' ⟨v, rfl, k', hv, he', hs'⟩
    exact hK _ _ (ih hQ (fun o ho => hN o (by simp [ho])) k' _ w' (by rw [put_size, ha]) (by rw [put_defers', hd]) ((hf.mono he').put hv (by rw [ha]; exact hN o (by simp))) hs' (he.trans he'))
  | make o rest fr s d x fl fr' s' hg ho _ ih =>
    intro k a w ha hd hf hs he
    refine wpList_step fun K hK => ?_
    rw [if_pos (gd_wanted hg fun t x _ hx => hf t x hx)]
    refine Oper.wp_mono ?_ (ho B k a w (hf.ops o) hs _)
    rintro _ w' ⟨v, rfl, k', hv, he', hs'⟩
    exact hK _ _ (ih hQ (fun o ho => hN o (by simp [ho])) k' _ w' (by rw [put_size, ha]) (by rw [put_defers', hd]) ((hf.mono he').put hv (by rw [ha]; exact hN o (by simp))) hs' (he.trans he'))
  | eff o rest fr s d s1 fl fr' s' hg ho _ ih =>
    intro k a w ha hd hf hs he
    refine wpList_step fun K hK => ?_
    rw [if_pos (gd_wanted hg fun t x _ hx => hf t x hx)]
    refine Oper.wp_mono ?_ (ho B k a w (hf.ops o) hs _)
    rintro _ w' ⟨v, rfl, k', hv, he', hs'⟩
    exact hK _ _ (ih hQ (fun o ho => hN o (by simp [ho])) k' _ w' (by rw [put_size, ha]) (by rw [put_defers', hd]) ((hf.mono he').put hv (by rw [ha]; exact hN o (by simp))) hs' (he.trans he'))

/-! ### Whatever order -/

/-- The text's walk, operation by operation. -/
structure Txt (P : Program) (ops : Array Oper) (frs : Nat → Fr) (ss : Nat → List AObj) (ds : Nat → AV) (wt : Nat → Bool) (fl : Nat → Nat) : Prop where
  guard : ∀ (i : Nat) (o : Oper), ops[i]? = some o → gd ops (frs i) o = some (wt i)
  next : ∀ (i : Nat) (o : Oper), ops[i]? = some o → frs (i + 1) = putF (frs i) o.dst (ds i)
  skip : ∀ (i : Nat) (o : Oper), ops[i]? = some o → wt i = false → ds i = undefA
  free : ∀ (i : Nat) (o : Oper), ops[i]? = some o → wt i = true → fl i = 0 → ∀ s, AOp P o (frs i) s (ds i) s
  step : ∀ (i : Nat) (o : Oper), ops[i]? = some o → wt i = true → AOp P o (frs i) (ss i) (ds i) (ss (i + 1))
  reads : ∀ (i : Nat) (o : Oper), ops[i]? = some o → wt i = true → fl i = 1 → ∀ s2, Agrees (ss i) s2 → AOp P o (frs i) s2 (ds i) s2
  make : ∀ (i : Nat), i < ops.size → fl i = 3 → ∃ x, ss (i + 1) = ss i ++ [x]
  still : ∀ (i : Nat), i < ops.size → (fl i < 2 ∨ wt i = false) → ss (i + 1) = ss i
  off : ∀ (i : Nat), wt i = false → fl i = 0

theorem txt_of {P : Program} {ops : Array Oper} : ∀ {l : List Oper} {fr : Fr} {s : List AObj} {fl : List Nat} {fr' : Fr} {s' : List AObj}, AOps P ops l fr s fl fr' s' →
    ∃ (frs : Nat → Fr) (ss : Nat → List AObj) (ds : Nat → AV) (wt : Nat → Bool), frs 0 = fr ∧ ss 0 = s ∧ frs l.length = fr' ∧ ss l.length = s' ∧ fl.length = l.length ∧
      (∀ (i : Nat) (o : Oper), l[i]? = some o → gd ops (frs i) o = some (wt i) ∧ frs (i + 1) = putF (frs i) o.dst (ds i) ∧ (wt i = false → ds i = undefA) ∧ (wt i = true → fl.getD i 0 = 0 → ∀ s, AOp P o (frs i) s (ds i) s) ∧
        (wt i = true → AOp P o (frs i) (ss i) (ds i) (ss (i + 1))) ∧ ((fl.getD i 0 < 2 ∨ wt i = false) → ss (i + 1) = ss i) ∧
        (wt i = true → fl.getD i 0 = 1 → ∀ s2, Agrees (ss i) s2 → AOp P o (frs i) s2 (ds i) s2) ∧ (fl.getD i 0 = 3 → ∃ x, ss (i + 1) = ss i ++ [x])) ∧ ∀ i, wt i = false → fl.getD i 0 = 0 := by
  intro l fr s fl fr' s' h
  induction h with
  | nil fr s => exact ⟨fun _ => fr, fun _ => s, fun _ => undefA, fun _ => true, rfl, rfl, rfl, rfl, rfl, by simp, by simp⟩
  | skip o rest fr s fl fr' s' hg _ ih =>
    obtain ⟨frs, ss, ds, wt, h1, h2, h3, h4, h5, h6, h7⟩ := ih
    refine ⟨fun i => if i = 0 then fr else frs (i - 1), fun i => if i = 0 then s else ss (i - 1), fun i => if i = 0 then undefA else ds (i - 1), fun i => if i = 0 then false else wt (i - 1), rfl, rfl, by simpa using h3, by simpa using h4, by simp [h5], fun i o' ho => ?_, fun i hi => ?_⟩
    · cases i with
      | zero => simp at ho; subst ho; simp [hg, h1, h2]
      | succ i => simpa using h6 i o' (by simpa using ho)
    · cases i with
      | zero => rfl
      | succ i => simpa using h7 i (by simpa using hi)
  | free o rest fr s d fl fr' s' hg ho' _ ih =>
    obtain ⟨frs, ss, ds, wt, h1, h2, h3, h4, h5, h6, h7⟩ := ih
    refine ⟨fun i => if i = 0 then fr else frs (i - 1), fun i => if i = 0 then s else ss (i - 1), fun i => if i = 0 then d else ds (i - 1), fun i => if i = 0 then true else wt (i - 1), rfl, rfl, by simpa using h3, by simpa using h4, by simp [h5], fun i o' ho => ?_, fun i hi => ?_⟩
    · cases i with
      | zero => simp at ho; subst ho; simpa [hg, h1, h2] using ⟨ho', ho' s⟩
      | succ i => simpa using h6 i o' (by simpa using ho)
    · cases i with
      | zero => simp at hi
      | succ i => simpa using h7 i (by simpa using hi)
  | reads o rest fr s d fl fr' s' hg ho' _ ih =>
    obtain ⟨frs, ss, ds, wt, h1, h2, h3, h4, h5, h6, h7⟩ := ih
    refine ⟨fun i => if i = 0 then fr else frs (i - 1), fun i => if i = 0 then s else ss (i - 1), fun i => if i = 0 then d else ds (i - 1), fun i => if i = 0 then true else wt (i - 1), rfl, rfl, by simpa using h3, by simpa using h4, by simp [h5], fun i o' ho => ?_, fun i hi => ?_⟩
    · cases i with
      | zero => simp at ho; subst ho; simpa [hg, h1, h2] using ⟨ho' s (Agrees.refl s), ho'⟩
      | succ i => simpa using h6 i o' (by simpa using ho)
    · cases i with
      | zero => simp at hi
      | succ i => simpa using h7 i (by simpa using hi)
  | make o rest fr s d x fl fr' s' hg ho' _ ih =>
    obtain ⟨frs, ss, ds, wt, h1, h2, h3, h4, h5, h6, h7⟩ := ih
    refine ⟨fun i => if i = 0 then fr else frs (i - 1), fun i => if i = 0 then s else ss (i - 1), fun i => if i = 0 then d else ds (i - 1), fun i => if i = 0 then true else wt (i - 1), rfl, rfl, by simpa using h3, by simpa using h4, by simp [h5], fun i o' ho => ?_, fun i hi => ?_⟩
    · cases i with
      | zero => simp at ho; subst ho; simpa [hg, h1, h2] using ho'
      | succ i => simpa using h6 i o' (by simpa using ho)
    · cases i with
      | zero => simp at hi
      | succ i => simpa using h7 i (by simpa using hi)
  | eff o rest fr s d s1 fl fr' s' hg ho' _ ih =>
    obtain ⟨frs, ss, ds, wt, h1, h2, h3, h4, h5, h6, h7⟩ := ih
    refine ⟨fun i => if i = 0 then fr else frs (i - 1), fun i => if i = 0 then s else ss (i - 1), fun i => if i = 0 then d else ds (i - 1), fun i => if i = 0 then true else wt (i - 1), rfl, rfl, by simpa using h3, by simpa using h4, by simp [h5], fun i o' ho => ?_, fun i hi => ?_⟩
    · cases i with
      | zero => simp at ho; subst ho; simpa [hg, h1, h2] using ho'
      | succ i => simpa using h6 i o' (by simpa using ho)
    · cases i with
      | zero => simp at hi
      | succ i => simpa using h7 i (by simpa using hi)
end Go.Ab

namespace Go.Ab
open Go Go.RowKit

/-- Operation i is ahead of operation j in every order. -/
def anc (bf : Array Nat) (i j : Nat) : Bool := (bf.getD j 0).testBit i

def tmpsOf (o : Oper) : List Nat := o.op.operands.toList.filterMap fun | .tmp t => some t | _ => none
def readsOf (ops : Array Oper) (o : Oper) : List Nat := tmpsOf o ++ (gslot ops o).toList

/-- Two operations touch one slot, one of them writing. -/
def clash (ops : Array Oper) (x y : Oper) : Bool :=
  (match x.dst with | some t => (readsOf ops y).contains t || y.dst == some t | none => false) || (match y.dst with | some t => (readsOf ops x).contains t | none => false)

/-- Two that touch own blocks and have to wait for one another. -/
def conf (a b : Nat) : Bool := (a == 2 && decide (1 ≤ b)) || (b == 2 && decide (1 ≤ a)) || (a == 3 && b == 3)

def ordB (ops : Array Oper) (fl : List Nat) : Bool :=
  let bf := Region.before ops
  (List.range ops.size).all fun j => match ops[j]? with
    | none => true
    | some oj => oj.after.all (fun e => !Region.binds .any e || decide (e.on < j)) &&
      (List.range ops.size).all fun i =>
        (!anc bf i j || oj.after.any fun e => Region.binds .any e && (e.on == i || anc bf i e.on)) &&
        match ops[i]? with
        | none => true
        | some oi => !decide (i < j) || anc bf i j || (!clash ops oi oj && !conf (fl.getD i 0) (fl.getD j 0))

structure OrdOk (ops : Array Oper) (an : Nat → Nat → Bool) (fl : Nat → Nat) : Prop where
  back : ∀ (j : Nat) (o : Oper), ops[j]? = some o → ∀ e ∈ o.after, Region.binds .any e = true → e.on < j
  up : ∀ (i j : Nat) (o : Oper), ops[j]? = some o → i < ops.size → an i j = true → ∃ e ∈ o.after, Region.binds .any e = true ∧ (e.on = i ∨ an i e.on = true)
  names : ∀ (i j : Nat) (oi oj : Oper), i < j → ops[i]? = some oi → ops[j]? = some oj → clash ops oi oj = true → an i j = true
  flags : ∀ (i j : Nat), i < j → j < ops.size → conf (fl i) (fl j) = true → an i j = true

theorem ordOk_of {ops : Array Oper} {fl : List Nat} (h : ordB ops fl = true) : OrdOk ops (anc (Region.before ops)) (fun i => fl.getD i 0) := by
  unfold ordB at h
  simp only [List.all_eq_true, List.mem_range] at h
  have hlt : ∀ {j : Nat} {o : Oper}, ops[j]? = some o → j < ops.size := fun ho => (Array.getElem?_eq_some_iff.1 ho).1
  refine ⟨fun j o ho e he hb => ?_, fun i j o ho hi ha => ?_, fun i j oi oj hij hoi hoj hc => ?_, fun i j hij hj hf => ?_⟩
  · have := h j (hlt ho)
    simp only [ho, Bool.and_eq_true] at this
    have := Array.all_eq_true_iff_forall_mem.1 this.1 e he
    simpa [hb] using this
  · have := h j (hlt ho)
    simp only [ho, Bool.and_eq_true, List.all_eq_true, List.mem_range] at this
    have h2 := (this.2 i hi).1
    rw [ha] at h2
    simp only [Bool.not_true, Bool.false_or] at h2
    obtain ⟨e, he, hb⟩ := Array.any_eq_true'.1 h2
    simp only [Bool.and_eq_true, Bool.or_eq_true, beq_iff_eq] at hb
    exact ⟨e, he, hb.1, hb.2⟩
  · have := h j (hlt hoj)
    simp only [hoj, Bool.and_eq_true, List.all_eq_true, List.mem_range] at this
    have h2 := (this.2 i (hlt hoi)).2
    simp only [hoi, Bool.or_eq_true, Bool.not_eq_true', decide_eq_false_iff_not, Bool.and_eq_true, hc] at h2
    rcases h2 with (h2 | h2) | h2
    · exact absurd hij h2
    · exact h2
    · exact absurd h2.1 (by simp)
  · have hoj : ops[j]? = some ops[j] := Array.getElem?_eq_getElem hj
    have hoi : ops[i]? = some ops[i] := Array.getElem?_eq_getElem (by omega)
    have := h j hj
    simp only [hoj, Bool.and_eq_true, List.all_eq_true, List.mem_range] at this
    have h2 := (this.2 i (by omega)).2
    simp only [hoi, Bool.or_eq_true, Bool.not_eq_true', decide_eq_false_iff_not, Bool.and_eq_true] at h2
    rcases h2 with (h2 | h2) | h2
    · exact absurd hij h2
    · exact h2
    · rw [hf] at h2; cases h2.2

section
variable {P : Program} {ops : Array Oper} {frs : Nat → Fr} {ss : Nat → List AObj} {ds : Nat → AV} {wt : Nat → Bool} {fl : Nat → Nat} {an : Nat → Nat → Bool}

def dstOf (ops : Array Oper) (i : Nat) : Option Nat := (ops[i]?).bind (·.dst)
def valS (ops : Array Oper) (ds : Nat → AV) (fr0 : Fr) (L : Array Bool) (t : Nat) : Nat → Option AV
  | 0 => look fr0 t
  | i + 1 => if L.getD i false = true ∧ dstOf ops i = some t then some (ds i) else valS ops ds fr0 L t i
def valT (ops : Array Oper) (ds : Nat → AV) (fr0 : Fr) (t : Nat) : Nat → Option AV
  | 0 => look fr0 t
  | i + 1 => if dstOf ops i = some t then some (ds i) else valT ops ds fr0 t i

theorem look_putF (fr : Fr) (dst : Option Nat) (x : AV) (t : Nat) : look (putF fr dst x) t = if dst = some t then some x else look fr t := by
  cases dst with
  | none => simp [putF]
  | some d => simp [putF, look]

theorem look_frs (h : Txt P ops frs ss ds wt fl) (t : Nat) : ∀ j, j ≤ ops.size → look (frs j) t = valT ops ds (frs 0) t j
  | 0, _ => rfl
  | j + 1, hj => by
    have ho : ops[j]? = some ops[j] := Array.getElem?_eq_getElem (by omega)
    rw [h.next j _ ho, look_putF, valT, look_frs h t j (by omega)]
    unfold dstOf
    rw [ho]
    rfl

theorem valS_drop (ds : Nat → AV) (fr0 : Fr) (L : Array Bool) (t j : Nat) : ∀ m, j ≤ m → (∀ i, j ≤ i → i < m → dstOf ops i = some t → L.getD i false = false) → valS ops ds fr0 L t m = valS ops ds fr0 L t j
  | 0, hj, _ => by obtain rfl : j = 0 := by omega
                   rfl
  | m + 1, hj, h => by
    by_cases e : j = m + 1
    · subst e; rfl
    · rw [valS, if_neg, valS_drop ds fr0 L t j m (by omega) fun i h1 h2 => h i h1 (by omega)]
      rintro ⟨h1, h2⟩
      have := h m (by omega) (by omega) h2
      rw [this] at h1; cases h1

theorem valS_all (ds : Nat → AV) (fr0 : Fr) (L : Array Bool) (t : Nat) : ∀ j, (∀ i, i < j → dstOf ops i = some t → L.getD i false = true) → valS ops ds fr0 L t j = valT ops ds fr0 t j
  | 0, _ => rfl
  | j + 1, h => by
    rw [valS, valT, valS_all ds fr0 L t j fun i hi => h i (by omega)]
    by_cases e : dstOf ops j = some t
    · rw [if_pos ⟨h j (by omega) e, e⟩, if_pos e]
    · rw [if_neg fun hh => e hh.2, if_neg e]

theorem valS_set (ds : Nat → AV) (fr0 : Fr) (L : Array Bool) (t j : Nat) (hj : j < L.size) : ∀ m,
    ((j < m ∧ dstOf ops j = some t ∧ (∀ i, j < i → i < m → dstOf ops i = some t → L.getD i false = false)) → valS ops ds fr0 (L.setIfInBounds j true) t m = some (ds j)) ∧
    (¬ (j < m ∧ dstOf ops j = some t ∧ (∀ i, j < i → i < m → dstOf ops i = some t → L.getD i false = false)) → valS ops ds fr0 (L.setIfInBounds j true) t m = valS ops ds fr0 L t m)
  | 0 => ⟨fun h => by omega, fun _ => rfl⟩
  | m + 1 => by
    have hget : (L.setIfInBounds j true).getD m false = if m = j then true else L.getD m false := by
      by_cases e : m = j
      · subst e; simp [hj]
      · rw [if_neg e]; exact getD_set_ne false (fun h => e h.symm)
    obtain ⟨ih1, ih2⟩ := valS_set ds fr0 L t j hj m
    refine ⟨fun ⟨h1, h2, h3⟩ => ?_, fun hn => ?_⟩
    · by_cases e : m = j
      · subst e
        simp only [valS]
        rw [hget, if_pos rfl, if_pos ⟨rfl, h2⟩]
      · have h4 := ih1 ⟨by omega, h2, fun i h4 h5 => h3 i h4 (by omega)⟩
        simp only [valS]
        rw [hget, if_neg e, if_neg, h4]
        rintro ⟨h5, h6⟩
        have := h3 m (by omega) (by omega) h6
        rw [h5] at this; cases this
    · simp only [valS]
      rw [hget]
      by_cases e : m = j
      · subst e
        have hmt : dstOf ops m ≠ some t := fun h => hn ⟨by omega, h, fun i h1 h2 => by omega⟩
        rw [if_neg fun h => hmt h.2, if_neg fun h => hmt h.2]
        exact ih2 fun h => by omega
      · rw [if_neg e]
        by_cases hc : L.getD m false = true ∧ dstOf ops m = some t
        · rw [if_pos hc, if_pos hc]
        · rw [if_neg hc, if_neg hc]
          refine ih2 fun ⟨h1, h2, h3⟩ => hn ⟨by omega, h2, fun i h4 h5 h6 => ?_⟩
          by_cases him : i = m
          · subst him
            cases hL : L.getD i false with
            | false => rfl
            | true => exact absurd ⟨hL, h6⟩ hc
          · exact h3 i h4 (by omega) h6

/-- What holds when the operations of L are done. -/
structure Done (ops : Array Oper) (ds : Nat → AV) (fr0 : Fr) (ss : Nat → List AObj) (fl : Nat → Nat) (an : Nat → Nat → Bool) (B N : Nat) (k0 : Cfg) (w0 : World) (L : Array Bool) (k : Cfg) (a : Act) (w : World) : Prop where
  size : L.size = ops.size
  closed : ∀ j, L.getD j false = true → ∀ i, i < ops.size → an i j = true → L.getD i false = true
  tmps : a.tmps.size = N
  defers : a.defers = []
  ext : Ext B k0 w0 k w
  slots : ∀ t x, valS ops ds fr0 L t ops.size = some x → RA k w (a.tmps.getD t undef) x
  store : ∃ m, m ≤ ops.size ∧ (∀ i, i < m → 2 ≤ fl i → L.getD i false = true) ∧ (∀ i, m ≤ i → i < ops.size → 2 ≤ fl i → L.getD i false = false) ∧ St B k (ss m) w

theorem ss_eq (h : Txt P ops frs ss ds wt fl) : ∀ (d m : Nat), m + d ≤ ops.size → (∀ i, m ≤ i → i < m + d → fl i < 2) → ss (m + d) = ss m
  | 0, _, _, _ => rfl
  | d + 1, m, hm, hn => by
    rw [← Nat.add_assoc, h.still (m + d) (by omega) (.inl (hn (m + d) (by omega) (by omega)))]
    exact ss_eq h d m (by omega) (fun i h1 h2 => hn i h1 (by omega))

theorem ss_ext (h : Txt P ops frs ss ds wt fl) (hle : ∀ i, i < ops.size → fl i ≤ 3) : ∀ (d m : Nat), m + d ≤ ops.size → (∀ i, m ≤ i → i < m + d → fl i ≠ 2) → ∃ xs, ss (m + d) = ss m ++ xs
  | 0, _, _, _ => ⟨[], by simp⟩
  | d + 1, m, hm, hn => by
    obtain ⟨xs, hx⟩ := ss_ext h hle d m (by omega) (fun i h1 h2 => hn i h1 (by omega))
    have h2 := hn (m + d) (by omega) (by omega)
    have h3 := hle (m + d) (by omega)
    by_cases h4 : fl (m + d) = 3
    · obtain ⟨x, h5⟩ := h.make (m + d) (by omega) h4
      exact ⟨xs ++ [x], by rw [← Nat.add_assoc, h5, hx, List.append_assoc]⟩
    · exact ⟨xs, by rw [← Nat.add_assoc, h.still (m + d) (by omega) (.inl (by omega)), hx]⟩

theorem agrees_left (s xs : List AObj) : Agrees s (s ++ xs) := fun id h1 _ => by rw [List.getElem?_append_left h1]
theorem agrees_right (s xs : List AObj) : Agrees (s ++ xs) s := fun id _ h2 => by rw [List.getElem?_append_left h2]

theorem region_step (hT : Txt P ops frs ss ds wt fl) (hO : OrdOk ops an fl) (hle : ∀ i, i < ops.size → fl i ≤ 3) {B N : Nat} {k0 : Cfg} {w0 : World} (hN : ∀ o ∈ ops, ∀ d, o.dst = some d → d < N)
    {L : Array Bool} {k : Cfg} {a : Act} {w : World} (hD : Done ops ds (frs 0) ss fl an B N k0 w0 L k a w) {j : Nat} (hj : j ∈ Region.ready .any ops L) {Q : Exit → Act → World → Prop} {K : Act → World → Prop}
    (hK : ∀ k' a' w', Done ops ds (frs 0) ss fl an B N k0 w0 (L.setIfInBounds j true) k' a' w' → K a' w') : wpOp P ops Q j K a w := by
  obtain ⟨hjun, oj, hoj, hall⟩ := mem_ready.1 hj
  have hjn : j < ops.size := (Array.getElem?_eq_some_iff.1 hoj).1
  have hjL : L.getD j false = false := by
    have : j < L.size := by rw [hD.size]; exact hjn
    simpa [this] using hjun
  have hanc : ∀ i, i < ops.size → an i j = true → L.getD i false = true := fun i hi ha => by
    obtain ⟨e, he, hb, h⟩ := hO.up i j oj hoj hi ha
    have h1 := hall e he hb
    rcases h with h | h
    · rw [← h]; exact h1
    · exact hD.closed _ h1 i hi h
  have hafter : ∀ i, i < ops.size → an j i = true → L.getD i false = false := fun i hi ha => by
    cases hL : L.getD i false with
    | false => rfl
    | true => have := hD.closed i hL j hjn ha; rw [hjL] at this; cases this
  have hdst : ∀ {i : Nat} {t : Nat}, dstOf ops i = some t → ∃ oi, ops[i]? = some oi ∧ oi.dst = some t := fun h => by
    unfold dstOf at h
    obtain ⟨oi, h1, h2⟩ := Option.bind_eq_some_iff.1 h
    exact ⟨oi, h1, h2⟩
  -- what is read holds what the text says
  have hval : ∀ t, t ∈ readsOf ops oj → valS ops ds (frs 0) L t ops.size = look (frs j) t := fun t ht => by
    rw [look_frs hT t j (by omega)]
    rw [valS_drop ds (frs 0) L t j ops.size (by omega) fun i h1 h2 h3 => ?_]
    · refine valS_all ds (frs 0) L t j fun i hi h3 => ?_
      obtain ⟨oi, h4, h5⟩ := hdst h3
      refine hanc i (by omega) (hO.names i j oi oj hi h4 hoj ?_)
      unfold clash
      rw [h5]
      simp [ht]
    · obtain ⟨oi, h4, h5⟩ := hdst h3
      by_cases hij : i = j
      · subst hij; exact hjL
      · refine hafter i h2 (hO.names j i oj oi (by omega) hoj h4 ?_)
        unfold clash
        rw [h5]
        simp [ht]
  have hslot : ∀ t x, t ∈ readsOf ops oj → look (frs j) t = some x → RA k w (a.tmps.getD t undef) x := fun t x ht hx => hD.slots t x (by rw [hval t ht]; exact hx)
  have hgd := hT.guard j oj hoj
  have hwant := gd_wanted hgd (k := k) (w := w) (a := a) fun t x hg hx => hslot t x (by unfold readsOf; simp [hg]) hx
  have hops : Ops k w a oj (frs j) := fun t x ht hx => hslot t x (by
    unfold readsOf tmpsOf
    refine List.mem_append_left _ (List.mem_filterMap.2 ⟨.tmp t, by simpa using ht, rfl⟩)) hx
  -- the memory behind it
  have hput : ∀ (v : Value) (k' : Cfg) (w' : World), RA k' w' v (ds j) → Ext B k w k' w' → (∃ m, m ≤ ops.size ∧ (∀ i, i < m → 2 ≤ fl i → (L.setIfInBounds j true).getD i false = true) ∧ (∀ i, m ≤ i → i < ops.size → 2 ≤ fl i → (L.setIfInBounds j true).getD i false = false) ∧ St B k' (ss m) w') →
      K (a.put oj.dst v) w' := fun v k' w' hv he hs => by
    have hjs : j < L.size := by rw [hD.size]; exact hjn
    refine hK k' _ w' ⟨by simp [hD.size], fun i hi m hm ha => ?_, by rw [put_size, hD.tmps], by rw [put_defers', hD.defers], hD.ext.trans he, fun t x hx => ?_, hs⟩
    · by_cases hmj : m = j
      · subst hmj; simp [hjs]
      · rw [getD_set_ne false (Ne.symm hmj)]
        by_cases hij : i = j
        · subst hij; exact hanc m hm ha
        · rw [getD_set_ne false (Ne.symm hij)] at hi
          exact hD.closed i hi m hm ha
    · by_cases hd : dstOf ops j = some t
      · rw [(valS_set ds (frs 0) L t j hjs ops.size).1 ⟨hjn, hd, fun i h1 h2 h3 => ?_⟩] at hx
        · obtain rfl := Option.some.inj hx
          obtain ⟨o', h4, h5⟩ := hdst hd
          rw [hoj] at h4; obtain rfl := Option.some.inj h4
          rw [h5, getD_put _ _ _ (by rw [hD.tmps]; exact hN oj (Array.mem_of_getElem? hoj) t h5), if_pos rfl]
          exact hv
        · obtain ⟨oi, h4, h5⟩ := hdst h3
          obtain ⟨o', h6, h7⟩ := hdst hd
          rw [hoj] at h6; obtain rfl := Option.some.inj h6
          refine hafter i h2 (hO.names j i oj oi h1 hoj h4 ?_)
          unfold clash
          rw [h7, h5]
          simp
      · rw [(valS_set ds (frs 0) L t j hjs ops.size).2 fun h => hd h.2.1] at hx
        have h1 := (hD.slots t x hx).mono he
        have : (a.put oj.dst v).tmps.getD t undef = a.tmps.getD t undef := by
          cases hdj : oj.dst with
          | none => rfl
          | some d =>
            rw [getD_put _ _ _ (by rw [hD.tmps]; exact hN oj (Array.mem_of_getElem? hoj) d hdj), if_neg]
            intro e; subst e
            exact hd (by unfold dstOf; rw [hoj]; exact hdj)
        rw [this]; exact h1
  have hsetj : ∀ i, 2 ≤ fl i → fl j < 2 → (L.setIfInBounds j true).getD i false = L.getD i false := fun i h1 h2 => getD_set_ne false (fun e => by subst e; omega)
  obtain ⟨m, hm, hm1, hm2, hst⟩ := hD.store
  -- whoever conflicts with j is done exactly if he stands ahead of it
  have hbef : ∀ i, i < j → conf (fl i) (fl j) = true → L.getD i false = true := fun i h1 h2 => hanc i (by omega) (hO.flags i j h1 hjn h2)
  have haft : ∀ i, j < i → i < ops.size → conf (fl j) (fl i) = true → L.getD i false = false := fun i h1 h2 h3 => hafter i h2 (hO.flags j i h1 h2 h3)
  have hsame : 2 ≤ fl j → ss j = ss m := fun h1 => by
    have hj3 := hle j hjn
    rcases Nat.le_total m j with hmj | hmj
    · obtain ⟨d, rfl⟩ : ∃ d, j = m + d := ⟨j - m, by omega⟩
      refine ss_eq hT d m (by omega) (fun i h2 h3 => ?_)
      rcases Nat.lt_or_ge (fl i) 2 with h4 | h4
      · exact h4
      · exfalso
        have h5 := hm2 i h2 (by omega) h4
        have h6 := hle i (by omega)
        have h7 := hbef i h3 (by
          have e1 : fl i = 2 ∨ fl i = 3 := by omega
          have e2 : fl (m + d) = 2 ∨ fl (m + d) = 3 := by omega
          rcases e1 with e1 | e1 <;> rcases e2 with e2 | e2 <;> rw [e1, e2] <;> rfl)
        rw [h5] at h7; cases h7
    · obtain ⟨d, rfl⟩ : ∃ d, m = j + d := ⟨m - j, by omega⟩
      refine (ss_eq hT d j hm (fun i h2 h3 => ?_)).symm
      rcases Nat.lt_or_ge (fl i) 2 with h4 | h4
      · exact h4
      · exfalso
        have h5 := hm1 i h3 h4
        have h6 := hle i (by omega)
        by_cases hij : i = j
        · subst hij; rw [hjL] at h5; cases h5
        · have h7 := haft i (by omega) (by omega) (by
            have e1 : fl i = 2 ∨ fl i = 3 := by omega
            have e2 : fl j = 2 ∨ fl j = 3 := by omega
            rcases e1 with e1 | e1 <;> rcases e2 with e2 | e2 <;> rw [e1, e2] <;> rfl)
          rw [h7] at h5; cases h5
  have hagree : fl j = 1 → Agrees (ss j) (ss m) := fun h1 => by
    rcases Nat.le_total m j with hmj | hmj
    · obtain ⟨d, rfl⟩ : ∃ d, j = m + d := ⟨j - m, by omega⟩
      obtain ⟨xs, hx⟩ := ss_ext hT hle d m (by omega) (fun i h2 h3 h4 => by
        have h5 := hm2 i h2 (by omega) (by omega)
        have h7 := hbef i h3 (by rw [h4, h1]; rfl)
        rw [h5] at h7; cases h7)
      rw [hx]; exact agrees_right _ _
    · obtain ⟨d, rfl⟩ : ∃ d, m = j + d := ⟨m - j, by omega⟩
      obtain ⟨xs, hx⟩ := ss_ext hT hle d j hm (fun i h2 h3 h4 => by
        have h5 := hm1 i h3 (by omega)
        by_cases hij : i = j
        · subst hij; omega
        · have h7 := haft i (by omega) (by omega) (by rw [h4, h1]; rfl)
          rw [h7] at h5; cases h5)
      rw [hx]; exact agrees_left _ _
  unfold wpOp
  rw [hoj]
  dsimp only
  rw [hwant]
  cases hw : wt j with
  | false =>
    rw [if_neg (by simp)]
    have hf := hT.off j hw
    rw [hT.skip j oj hoj hw] at hput
    exact hput _ k w RA.undf (Ext.refl B k w) ⟨m, hm, fun i h1 h2 => by rw [hsetj i h2 (by omega)]; exact hm1 i h1 h2, fun i h1 h2 h3 => by rw [hsetj i h3 (by omega)]; exact hm2 i h1 h2 h3, hst⟩
  | true =>
    rw [if_pos rfl]
    left
    by_cases h0 : fl j = 0
    · refine Oper.wp_mono ?_ (hT.free j oj hoj hw h0 (ss m) B k a w hops hst _)
      rintro _ w' ⟨v, rfl, k', hv, he, hs⟩
      exact hput v k' w' hv he ⟨m, hm, fun i h1 h2 => by rw [hsetj i h2 (by omega)]; exact hm1 i h1 h2, fun i h1 h2 h3 => by rw [hsetj i h3 (by omega)]; exact hm2 i h1 h2 h3, hs⟩
    · by_cases h1' : fl j = 1
      · refine Oper.wp_mono ?_ (hT.reads j oj hoj hw h1' (ss m) (hagree h1') B k a w hops hst _)
        rintro _ w' ⟨v, rfl, k', hv, he, hs⟩
        exact hput v k' w' hv he ⟨m, hm, fun i h1 h2 => by rw [hsetj i h2 (by omega)]; exact hm1 i h1 h2, fun i h1 h2 h3 => by rw [hsetj i h3 (by omega)]; exact hm2 i h1 h2 h3, hs⟩
      · have h2' : 2 ≤ fl j := by omega
        have hst' : St B k (ss j) w := by rw [hsame h2']; exact hst
        refine Oper.wp_mono ?_ (hT.step j oj hoj hw B k a w hops hst' _)
        rintro _ w' ⟨v, rfl, k', hv, he, hs⟩
        refine hput v k' w' hv he ⟨j + 1, by omega, fun i h3 h4 => ?_, fun i h3 h4 h5 => ?_, hs⟩
        · by_cases hij : i = j
          · subst hij; simp [hD.size, hjn]
          · rw [getD_set_ne false (Ne.symm hij)]
            refine hbef i (by omega) ?_
            have e1 : fl i = 2 ∨ fl i = 3 := by have := hle i (by omega); omega
            have e2 : fl j = 2 ∨ fl j = 3 := by have := hle j hjn; omega
            rcases e1 with e1 | e1 <;> rcases e2 with e2 | e2 <;> rw [e1, e2] <;> rfl
        · rw [getD_set_ne false (by omega)]
          refine haft i (by omega) h4 ?_
          have e1 : fl i = 2 ∨ fl i = 3 := by have := hle i h4; omega
          have e2 : fl j = 2 ∨ fl j = 3 := by have := hle j hjn; omega
          rcases e1 with e1 | e1 <;> rcases e2 with e2 | e2 <;> rw [e1, e2] <;> rfl

theorem ready_nil (hO : OrdOk ops an fl) {L : Array Bool} (hsz : L.size = ops.size) (h : Region.ready .any ops L = []) : ∀ i, i < ops.size → L.getD i false = true := by
  intro i
  induction i using Nat.strongRecOn with
  | _ i ih =>
    intro hi
    cases hL : L.getD i false with
    | true => rfl
    | false =>
      exfalso
      have : i ∈ Region.ready .any ops L := mem_ready.2 ⟨by have hs : i < L.size := by omega
                                                            simpa [hs] using hL, ops[i], Array.getElem?_eq_getElem hi, fun e he hb => by
        have := hO.back i ops[i] (Array.getElem?_eq_getElem hi) e he hb
        exact ih e.on this (by omega)⟩
      rw [h] at this; cases this

theorem region_any (hT : Txt P ops frs ss ds wt fl) (hO : OrdOk ops an fl) (hle : ∀ i, i < ops.size → fl i ≤ 3) {B N : Nat} {k0 : Cfg} {w0 : World} (hN : ∀ o ∈ ops, ∀ d, o.dst = some d → d < N) {Q : Exit → Fr → List AObj → Prop} (hQ : Q .normal (frs ops.size) (ss ops.size)) :
    ∀ (f : Nat) (L : Array Bool) (U : List Nat) (k : Cfg) (a : Act) (w : World), U.length = f → (∀ i, i < ops.size → L.getD i false = false → i ∈ U) → Done ops ds (frs 0) ss fl an B N k0 w0 L k a w → wpAny P .any ops (Post B N k0 w0 Q) f L a w := by
  have fin : ∀ (L : Array Bool) (k : Cfg) (a : Act) (w : World), (∀ i, i < ops.size → L.getD i false = true) → Done ops ds (frs 0) ss fl an B N k0 w0 L k a w → Post B N k0 w0 Q .normal a w := fun L k a w hall hD => by
    obtain ⟨m, hm, hm1, hm2, hst⟩ := hD.store
    refine ⟨_, _, k, hQ, hD.tmps, hD.defers, hD.ext, fun t x hx => hD.slots t x ?_, ?_⟩
    · rw [look_frs hT t _ (Nat.le_refl _)] at hx
      rw [valS_all ds (frs 0) L t ops.size fun i hi _ => hall i hi]
      exact hx
    · obtain ⟨d, hd⟩ : ∃ d, ops.size = m + d := ⟨ops.size - m, by omega⟩
      rw [hd, ss_eq hT d m (by omega) (fun i h1 h2 => ?_)]
      · exact hst
      · rcases Nat.lt_or_ge (fl i) 2 with h3 | h3
        · exact h3
        · have h4 := hm2 i h1 (by omega) h3
          have h5 := hall i (by omega)
          rw [h4] at h5; cases h5
  intro f
  induction f with
  | zero =>
    intro L U k a w hU hun hD
    obtain rfl : U = [] := List.eq_nil_of_length_eq_zero hU
    have hall : ∀ i, i < ops.size → L.getD i false = true := fun i hi => by
      cases hL : L.getD i false with
      | true => rfl
      | false => exact absurd (hun i hi hL) (by simp)
    refine ⟨?_, fin L k a w hall hD⟩
    cases hr : Region.ready .any ops L with
    | nil => rfl
    | cons j l =>
      have hj : j ∈ Region.ready .any ops L := by rw [hr]; simp
      obtain ⟨hjun, oj, hoj, _⟩ := mem_ready.1 hj
      have hjn : j < ops.size := (Array.getElem?_eq_some_iff.1 hoj).1
      have hs : j < L.size := by rw [hD.size]; exact hjn
      have := hall j hjn
      simp [hs] at this hjun
      rw [this] at hjun; cases hjun
  | succ f ih =>
    intro L U k a w hU hun hD
    refine ⟨fun h => fin L k a w (ready_nil hO hD.size h) hD, fun j hj => ?_⟩
    obtain ⟨hjun, oj, hoj, _⟩ := mem_ready.1 hj
    have hjn : j < ops.size := (Array.getElem?_eq_some_iff.1 hoj).1
    have hs : j < L.size := by rw [hD.size]; exact hjn
    have hjL : L.getD j false = false := by simpa [hs] using hjun
    refine region_step hT hO hle hN hD hj fun k' a' w' hD' => ih _ (U.erase j) k' a' w' ?_ (fun i hi hL => ?_) hD'
    · rw [List.length_erase_of_mem (hun j hjn hjL)]; omega
    · by_cases hij : i = j
      · subst hij; simp [hs] at hL
      · rw [getD_set_ne false (Ne.symm hij)] at hL
        exact (List.mem_erase_of_ne hij).2 (hun i hi hL)
end
end Go.Ab

namespace Go.Ab
open Go Go.RowKit

/-- Code, as data. -/
def AW (P : Program) (B N : Nat) (c : Code) (Q : Exit → Fr → List AObj → Prop) (fr : Fr) (s : List AObj) : Prop :=
  ∀ (k : Cfg) (a : Act) (w : World), a.tmps.size = N → a.defers = [] → FR k w a fr → St B k s w → c.wp P (Post B N k w Q) a w

section
variable {P : Program} {B N : Nat} {Q : Exit → Fr → List AObj → Prop} {fr : Fr} {s : List AObj}

theorem Post.mono {Q' : Exit → Fr → List AObj → Prop} {k : Cfg} {w : World} {e : Exit} {a : Act} {w' : World} (h : Post B N k w Q e a w') (hq : ∀ fr s, Q e fr s → Q' e fr s) : Post B N k w Q' e a w' := by
  obtain ⟨fr, s, k', h1, h2⟩ := h
  exact ⟨fr, s, k', hq _ _ h1, h2⟩
theorem Post.trans {k k' : Cfg} {w w' : World} (he : Ext B k w k' w') {e : Exit} {a : Act} {w'' : World} (h : Post B N k' w' Q e a w'') : Post B N k w Q e a w'' := by
  obtain ⟨fr, s, k'', h1, h2, h3, h4, h5⟩ := h
  exact ⟨fr, s, k'', h1, h2, h3, he.trans h4, h5⟩

theorem AW.mono {c : Code} {Q' : Exit → Fr → List AObj → Prop} (h : AW P B N c Q fr s) (hq : ∀ e fr s, Q e fr s → Q' e fr s) : AW P B N c Q' fr s :=
  fun k a w h1 h2 h3 h4 => wp_mono (h k a w h1 h2 h3 h4) fun _ _ _ h => h.mono (hq _)

/-- Less may be said of the slots. -/
theorem AW.frame {c : Code} {fr' : Fr} (h : AW P B N c Q fr' s) (hf : ∀ t x, look fr' t = some x → look fr t = some x) : AW P B N c Q fr s :=
  fun k a w h1 h2 h3 h4 => h k a w h1 h2 (fun t x hx => h3 t x (hf t x hx)) h4

theorem Post.now {e : Exit} {k : Cfg} {a : Act} {w : World} (hq : Q e fr s) (h1 : a.tmps.size = N) (h2 : a.defers = []) (h3 : FR k w a fr) (h4 : St B k s w) : Post B N k w Q e a w := ⟨fr, s, k, hq, h1, h2, Ext.refl B k w, h3, h4⟩

theorem AW.skip (h : Q .normal fr s) : AW P B N .skip Q fr s := fun _ _ _ h1 h2 h3 h4 => wp_skip (Post.now h h1 h2 h3 h4)
theorem AW.label {l : Nat} (h : Q .normal fr s) : AW P B N (.label l) Q fr s := fun _ _ _ h1 h2 h3 h4 => wp_label (Post.now h h1 h2 h3 h4)
theorem AW.exit {id : Nat} (h : Q (.exit id) fr s) : AW P B N (.exit id) Q fr s := fun _ _ _ h1 h2 h3 h4 => wp_exit (Post.now h h1 h2 h3 h4)
theorem AW.ret (h : Q .ret fr s) : AW P B N .ret Q fr s := fun _ _ _ h1 h2 h3 h4 => wp_ret (Post.now h h1 h2 h3 h4)

def SeqQ (K : Fr → List AObj → Prop) (Q : Exit → Fr → List AObj → Prop) : Exit → Fr → List AObj → Prop
  | .normal, fr, s => K fr s
  | e, fr, s => Q e fr s

theorem AW.seq {x y : Code} (h : AW P B N x (SeqQ (AW P B N y Q) Q) fr s) : AW P B N (.seq x y) Q fr s := fun k a w h1 h2 h3 h4 => by
  refine wp_seq (wp_mono (h k a w h1 h2 h3 h4) fun e a' w' hp => ?_)
  cases e with
  | normal =>
    obtain ⟨fr', s', k', q, g1, g2, g3, g4, g5⟩ := hp
    exact wp_mono (q k' a' w' g1 g2 g4 g5) fun _ _ _ h => h.trans g3
  | _ => exact hp

theorem AW.cond {c : Operand} {x y : Code} {t : Nat} {b : Bool} (hc : c = .tmp t) (hl : look fr t = some (.d (.sc (.bool b)))) (h : AW P B N (if b then x else y) Q fr s) : AW P B N (.cond c x y) Q fr s := fun k a w h1 h2 h3 h4 => by
  have hv : RD k.I w (a.tmps.getD t undef) (.sc (.bool b)) := h3 t _ hl
  refine wp_cond (t := b) ?_ (h k a w h1 h2 h3 h4)
  subst hc
  show a.tmps.getD t undef = _
  generalize a.tmps.getD t undef = u at hv
  cases hv; rfl

theorem AW.condc {b : Bool} {x y : Code} (h : AW P B N (if b then x else y) Q fr s) : AW P B N (.cond (.const (.bool b)) x y) Q fr s := fun k a w h1 h2 h3 h4 => wp_cond (t := b) rfl (h k a w h1 h2 h3 h4)

def BlockQ (id : Nat) (Q : Exit → Fr → List AObj → Prop) : Exit → Fr → List AObj → Prop
  | .exit id', fr, s => if id' = id then Q .normal fr s else Q (.exit id') fr s
  | e, fr, s => Q e fr s

theorem AW.block {id : Nat} {c : Code} (h : AW P B N c (BlockQ id Q) fr s) : AW P B N (.block id c) Q fr s := fun k a w h1 h2 h3 h4 => by
  refine wp_block (wp_mono (h k a w h1 h2 h3 h4) fun e a' w' hp => ?_)
  cases e with
  | exit id' =>
    obtain ⟨fr', s', k', q, g⟩ := hp
    show if id' = id then Post B N k w Q .normal a' w' else Post B N k w Q (.exit id') a' w'
    have q' : if id' = id then Q .normal fr' s' else Q (.exit id') fr' s' := q
    by_cases e : id' = id
    · rw [if_pos e] at q' ⊢; exact ⟨fr', s', k', q', g⟩
    · rw [if_neg e] at q' ⊢; exact ⟨fr', s', k', q', g⟩
  | _ => exact hp

/-- A loop: an invariant with a measure. -/
theorem AW.loop {c : Code} (Inv : Nat → Fr → List AObj → Prop) {m : Nat} (h0 : Inv m fr s) (h : ∀ m fr s, Inv m fr s → AW P B N c (SeqQ (fun fr' s' => ∃ m', m' < m ∧ Inv m' fr' s') Q) fr s) : AW P B N (.loop c) Q fr s := fun k a w h1 h2 h3 h4 => by
  refine wp_loop_ghost (fun n a' w' => Post B N k w (fun _ fr' s' => Inv n fr' s') .normal a' w') m ⟨fr, s, k, h0, h1, h2, Ext.refl B k w, h3, h4⟩ ?_
  rintro n a' w' ⟨fr', s', k', hi, g1, g2, g3, g4, g5⟩
  refine wp_mono (h n fr' s' hi k' a' w' g1 g2 g4 g5) fun e a₁ w₁ hq => ?_
  cases e with
  | normal =>
    obtain ⟨fr1, s1, k1, ⟨m', hm, hi1⟩, l1, l2, l3, l4, l5⟩ := hq
    exact ⟨m', hm, fr1, s1, k1, hi1, l1, l2, g3.trans l3, l4, l5⟩
  | _ => exact Post.trans g3 hq

end

/-! ### Functions -/

def Enters (P : Program) (f : FuncId) : Prop := ∀ (args : Array Value) (w : World), (callFunc f args).run P w = .ok (.enter f args) w

/-- A function as data: called with these data it returns that, and leaves the memory as it was, but for new blocks. -/
structure AFn (P : Program) (f : FuncId) (args : List D) (r : D) : Prop where
  enters : Enters P f
  calls : ∀ (I : Nat → Nat) (w : World) (vs : List Value), vs.length = args.length → (∀ (i : Nat) (v : Value) (d : D), vs[i]? = some v → args[i]? = some d → RD I w v d) →
    Calls P f vs.toArray w fun e w' => ∃ v, e = .returned v ∧ RD (bigI I w.heap.size w') w' v r ∧ Below w.heap.size w w'

def argsFr (args : List D) : Fr := args.zipIdx.map fun (d, i) => (i, .d d)

theorem look_argsFr : ∀ (args : List D) (n t : Nat), look ((args.zipIdx n).map fun (d, i) => (i, AV.d d)) t = if n ≤ t then (args[t - n]?).map .d else none
  | [], n, t => by simp [look]
  | d :: args, n, t => by
    simp only [List.zipIdx_cons, List.map_cons, look, look_argsFr args (n + 1) t]
    by_cases e : n = t
    · subst e; simp
    · rw [if_neg e]
      by_cases h : n ≤ t
      · rw [if_pos h, if_pos (by omega)]
        obtain ⟨d', hd⟩ : ∃ d', t - n = d' + 1 := ⟨t - n - 1, by omega⟩
        rw [hd, show t - (n + 1) = d' by omega]
        rfl
      · rw [if_neg h, if_neg (by omega)]

/-- What a function returns: a slot; cells of an own variable. -/
inductive CR where
  | tmp (t : Nat)
  | cell (t : Nat) (n : Option Nat)

def chunk {α : Type} (sz : Nat) : Nat → List α → List (List α)
  | 0, _ => []
  | n + 1, l => l.take sz :: chunk sz n (l.drop sz)

def mapO {α β : Type} (g : α → Option β) : List α → Option (List β)
  | [] => some []
  | x :: l => match g x, mapO g l with
    | some y, some l' => some (y :: l')
    | _, _ => none

/-- The data of what is returned: own rows are not written any more. -/
def deepD (s : List AObj) : Nat → AV → Option D
  | 0, _ => none
  | f + 1, .vec id n sz => match s[id]? with
    | some (.vec _ sz2 ds) => if sz2 = sz ∧ 0 < sz ∧ ds.length = n * sz then match mapO (deepD s f) ds with
        | some es => some (.sl sz (chunk sz n es))
        | none => none
      else none
    | _ => none
  | f + 1, .agg cs => match mapO (deepD s f) cs with
    | some es => some (.agg es)
    | none => none
  | _ + 1, x => x.toL

def resOne (fr : Fr) (s : List AObj) : CR → Option D
  | .tmp t => match look fr t with
    | some x => deepD s 5 x
    | none => none
  | .cell t none => match look fr t with
    | some (.ptr id off) => match s[id]? with
      | some (.cells cs) => match cs[off]? with
        | some x => deepD s 5 x
        | none => none
      | _ => none
    | _ => none
  | .cell t (some m) => match look fr t with
    | some (.ptr id off) => match s[id]? with
      | some (.cells cs) => if off + m ≤ cs.length then deepD s 5 (.agg ((cs.drop off).take m)) else none
      | _ => none
    | _ => none
def resAll (fr : Fr) (s : List AObj) : List CR → Option (List D)
  | [] => some []
  | r :: l => match resOne fr s r, resAll fr s l with
    | some d, some ds => some (d :: ds)
    | _, _ => none
def resD (fr : Fr) (s : List AObj) (rs : List CR) : Option D :=
  match resAll fr s rs with
  | some [d] => some d
  | some ds => some (.tup ds)
  | none => none

/-- How many cells a value of a type that is loaded has: none: one cell, and no struct. -/
def szOf (P : Program) (t : TypeId) : Option (Option Nat) :=
  match P.underlying t, P.info? t with
  | some d, some i => some (if d.isRow then some i.size else none)
  | _, _ => none

theorem szOf_inv {P : Program} {t : TypeId} {n : Option Nat} (h : szOf P t = some n) : ∃ d i, P.underlying t = some d ∧ P.info? t = some i ∧ n = (if d.isRow then some i.size else none) := by
  unfold szOf at h
  split at h
  · rename_i d i hu hi; exact ⟨d, i, hu, hi, (Option.some.inj h).symm⟩
  · cases h

theorem run_isAgg {P : Program} {w : World} {t : TypeId} {d : TypeDesc} (h : P.underlying t = some d) : (isAgg t).run P w = .ok d.isRow w := by
  unfold isAgg
  simp only [Sem.run_bind, run_underlying h, Result.andThen_ok]
  cases d <;> rfl
end Go.Ab

namespace Go.Ab
open Go Go.RowKit

/-- An operand. -/
inductive X where
  | t (n : Nat)
  | c (x : AV)
  deriving Inhabited

def X.ev (fr : Fr) : X → Option AV
  | .t n => look fr n
  | .c x => some x

/-- Instructions. -/
inductive CI where
  | mov (x : X)
  | pick (c a b : X)
  | ld (n : Option Nat) (x : X)
  | st (n : Nat) (x v : X)
  | fad (off : Nat) (x : X)
  | iad (sz : Nat) (x i : X)
  | fld (off : Nat) (n : Option Nat) (x : X)
  | ext (x : X) (i : Nat)
  | bin (op : BinOp) (x y : X)
  | not (x : X)
  | len (x : X)
  | lens (x : X)
  | slc (sz : Nat) (x : X) (lo hi : Option X)
  | app (mu : Bool) (e sz bytes : Nat) (x y : X)
  | bld (z : List AV) (ps : List (Nat × Nat × X))
  | bsl (mu : Bool) (e sz n : Nat) (z : List AV) (ps : List (Nat × Nat × X))
  | bsf (sz n : Nat) (z : List AV) (ps : List (Nat × Nat × X))
  | mks (mu : Bool) (e bytes : Nat) (z : AV) (l c : X)
  | cnv (k : IntKind) (x : X)
  | iap (n sz : Nat) (x i : X)
  | nck (x : X)
  | box (x : X)
  | call (f : FuncId) (xs : List X)
  deriving Inhabited

/-- Operators on scalars. -/
def binS : BinOp → Value → Value → Option Value
  | .add, .int k a, .int k' b => if k = k' then some (.int k (k.wrap (a + b))) else none
  | .sub, .int k a, .int k' b => if k = k' then some (.int k (k.wrap (a - b))) else none
  | .mul, .int k a, .int k' b => if k = k' then some (.int k (k.wrap (a * b))) else none
  | .eql, .int k a, .int k' b => if k = k' then some (.bool (a == b)) else none
  | .neq, .int k a, .int k' b => if k = k' then some (.bool (a != b)) else none
  | .lss, .int k a, .int k' b => if k = k' then some (.bool (decide (a < b))) else none
  | .leq, .int k a, .int k' b => if k = k' then some (.bool (decide (a ≤ b))) else none
  | .gtr, .int k a, .int k' b => if k = k' then some (.bool (decide (a > b))) else none
  | .geq, .int k a, .int k' b => if k = k' then some (.bool (decide (a ≥ b))) else none
  | .eql, .string a, .string b => some (.bool (a.toList == b.toList))
  | .neq, .string a, .string b => some (.bool !(a.toList == b.toList))
  | .add, .string a, .string b => if ((a.size + b.size : Nat) : Int) ≤ 9223372036854775807 then some (.string (a ++ b)) else none
  | _, _, _ => none

def scOf : Option AV → Option Value
  | some (.d (.sc v)) => some v
  | _ => none
def intA : Option AV → Option Int
  | some (.d (.sc (.int .i64 n))) => some n
  | _ => none
def slA (sz : Nat) : Option AV → Option (List (List D))
  | some (.d (.sl s rows)) => if s = sz then some rows else none
  | some (.tsl _ s rows) => if s = sz then some rows else none
  | some (.nil s) => if s = sz then some [] else none
  | _ => none

/-- A bound of a slice expression. -/
def boundA (fr : Fr) (dft : Nat) : Option X → Option Int
  | none => some dft
  | some x => intA (x.ev fr)

/-- A struct's cells, parts of them given. -/
def fillA (fr : Fr) : List AV → List (Nat × Nat × X) → Option (List AV)
  | cs, [] => some cs
  | cs, (off, size, x) :: ps => match (x.ev fr).bind AV.cells with
    | some vs => if vs.length = size ∧ off + size ≤ cs.length then fillA fr (cs.take off ++ vs ++ cs.drop (off + size)) ps else none
    | none => none

/-- What is appended: so many elements, these cells. -/
def srcA (s : List AObj) (sz : Nat) : Option AV → Option (Nat × List AV)
  | some (.vec id n sz') => match s[id]? with
    | some (.vec _ sz2 ds) => if sz' = sz ∧ sz2 = sz ∧ 0 < sz ∧ ds.length = n * sz then some (n, ds) else none
    | _ => none
  | y => match slA sz y with
    | some rows => some (rows.length, rows.flatten.map .d)
    | none => none

def CI.sem (fr : Fr) (s : List AObj) : CI → Option (AV × List AObj)
  | .mov x => (x.ev fr).map fun d => (d, s)
  | .pick c a b => match scOf (c.ev fr) with
    | some (.bool true) => (a.ev fr).map fun d => (d, s)
    | some (.bool false) => (b.ev fr).map fun d => (d, s)
    | _ => none
  | .ld none x => match x.ev fr with
    | some (.d (.ref (d :: _))) => some (.d d, s)
    | some (.ptr id off) => match s[id]? with
      | some (.cells cs) => (cs[off]?).map fun d => (d, s)
      | _ => none
    | some (.vptr id n off) => match s[id]? with
      | some (.vec _ sz ds) => if 0 < sz ∧ ds.length = n * sz then (ds[off]?).map fun d => (d, s) else none
      | _ => none
    | _ => none
  | .ld (some m) x => match x.ev fr with
    | some (.d (.ref ds)) => if m ≤ ds.length then some (.d (.agg (ds.take m)), s) else none
    | some (.ptr id off) => match s[id]? with
      | some (.cells cs) => if off + m ≤ cs.length then some (.agg ((cs.drop off).take m), s) else none
      | _ => none
    | some (.vptr id n off) => match s[id]? with
      | some (.vec _ sz ds) => if 0 < sz ∧ ds.length = n * sz ∧ off + m ≤ ds.length then some (.agg ((ds.drop off).take m), s) else none
      | _ => none
    | _ => none
  | .st m x v => match x.ev fr, (v.ev fr).bind AV.cells with
    | some (.ptr id off), some vs => match s[id]? with
      | some (.cells cs) => if vs.length = m ∧ off + m ≤ cs.length then some (undefA, s.set id (.cells (cs.take off ++ vs ++ cs.drop (off + m)))) else none
      | _ => none
    | some (.vptr id n off), some vs => match s[id]? with
      | some (.vec e sz ds) => if 0 < sz ∧ ds.length = n * sz ∧ vs.length = m ∧ off + m ≤ ds.length then some (undefA, s.set id (.vec e sz (ds.take off ++ vs ++ ds.drop (off + m)))) else none
      | _ => none
    | _, _ => none
  | .fad off x => match x.ev fr with
    | some (.d (.ref ds)) => some (.d (.ref (ds.drop off)), s)
    | some (.ptr id o) => some (.ptr id (o + off), s)
    | some (.vptr id n o) => some (.vptr id n (o + off), s)
    | _ => none
  | .iad sz x i => match intA (i.ev fr) with
    | none => none
    | some n => if 0 ≤ n then match x.ev fr with
        | some (.vec id m sz') => match s[id]? with
          | some (.vec _ sz2 ds) => if sz' = sz ∧ sz2 = sz ∧ 0 < sz ∧ ds.length = m * sz ∧ n.toNat < m then some (.vptr id m (n.toNat * sz), s) else none
          | _ => none
        | y => match slA sz y with
          | some rows => match rows[n.toNat]? with
            | some r => some (.d (.ref r), s)
            | none => none
          | none => none
      else none
  | .fld off none x => match (x.ev fr).bind AV.row with
    | some cs => (cs[off]?).map fun d => (d, s)
    | none => none
  | .fld off (some m) x => match (x.ev fr).bind AV.row with
    | some cs => if off + m ≤ cs.length then some (.agg ((cs.drop off).take m), s) else none
    | none => none
  | .ext x i => match x.ev fr with
    | some (.d (.tup ds)) => (ds[i]?).map fun d => (.d d, s)
    | _ => none
  | .bin op x y => match scOf (x.ev fr), scOf (y.ev fr) with
    | some u, some v => (binS op u v).map fun r => (.d (.sc r), s)
    | _, _ => none
  | .not x => match scOf (x.ev fr) with
    | some (.bool b) => some (.d (.sc (.bool !b)), s)
    | _ => none
  | .len x => match x.ev fr with
    | some (.d (.sl _ rows)) => some (.d (.sc (.int .i64 rows.length)), s)
    | some (.tsl _ _ rows) => some (.d (.sc (.int .i64 rows.length)), s)
    | some (.nil _) => some (.d (.sc (.int .i64 0)), s)
    | some (.vec _ n _) => some (.d (.sc (.int .i64 n)), s)
    | _ => none
  | .lens x => match scOf (x.ev fr) with
    | some (.string b) => some (.d (.sc (.int .i64 b.size)), s)
    | _ => none
  | .slc sz x lo hi => match slA sz (x.ev fr) with
    | some rows => match boundA fr 0 lo, boundA fr rows.length hi with
      | some l, some h => if 0 ≤ l ∧ l ≤ h ∧ h ≤ rows.length then some (.d (.sl sz ((rows.take h.toNat).drop l.toNat)), s) else none
      | _, _ => none
    | none => none
  | .app mu e sz bytes x y => match x.ev fr with
    | some (.vec id n sz') => match srcA s sz (y.ev fr), s[id]? with
      | some us, some (.vec e' sz2 ds) => if e' = e ∧ sz' = sz ∧ sz2 = sz ∧ 0 < sz ∧ ds.length = n * sz ∧ us.2.length = us.1 * sz ∧ (n + us.1) * bytes ≤ 140737488355328 ∧ n + us.1 ≤ 9223372036854775807 then
          some (.vec id (n + us.1) sz, s.set id (.vec e sz (ds ++ us.2))) else none
      | _, _ => none
    | z => match slA sz (y.ev fr) with
      | some news => match z with
        | some (.nil _) => if mu then none else if news = [] then some (.nil sz, s) else
            if news.length * bytes ≤ 140737488355328 ∧ news.length ≤ 9223372036854775807 then some (.tsl s.length sz news, s ++ [.row e sz news.length]) else none
        | some (.tsl id sz' rows) => match s[id]? with
          | some (.row e' sz2 n) => if e' = e ∧ sz' = sz ∧ sz2 = sz ∧ n = rows.length ∧ (rows.length + news.length) * bytes ≤ 140737488355328 ∧ rows.length + news.length ≤ 9223372036854775807 then
              some (.tsl id sz (rows ++ news), s.set id (.row e sz (rows.length + news.length))) else none
          | _ => none
        | _ => none
      | none => none
  | .bld z ps => (fillA fr z ps).map fun cs => (.agg cs, s)
  | .bsl mu e sz n z ps => match fillA fr z ps with
    | some cs => if cs.length = n * sz ∧ n ≤ 9223372036854775807 then
        if mu then some (.vec s.length n sz, s ++ [.vec e sz cs]) else match toLs cs with
          | some ds => some (.tsl s.length sz (chunk sz n ds), s ++ [.row e sz n])
          | none => none
      else none
    | none => none
  | .bsf sz n z ps => match fillA fr z ps with
    | some cs => if cs.length = n * sz ∧ n ≤ 9223372036854775807 then match toLs cs with
        | some ds => some (.d (.sl sz (chunk sz n ds)), s)
        | none => none
      else none
    | none => none
  | .mks mu e bytes z l c => match intA (l.ev fr), intA (c.ev fr) with
    | some n, some m => if 0 ≤ n ∧ n ≤ m ∧ m * bytes ≤ 140737488355328 ∧ m ≤ 140737488355328 then
        if mu then some (.vec s.length n.toNat 1, s ++ [.vec e 1 (List.replicate n.toNat z)]) else match z.toL with
          | some d => some (.tsl s.length 1 (List.replicate n.toNat [d]), s ++ [.row e 1 n.toNat])
          | none => none
      else none
    | _, _ => none
  | .cnv k x => match scOf (x.ev fr) with
    | some (.int _ n) => some (.d (.sc (.int k (k.wrap n))), s)
    | _ => none
  | .iap n sz x i => match intA (i.ev fr) with
    | none => none
    | some j => if 0 ≤ j ∧ j < n then match x.ev fr with
        | some (.d (.ref ds)) => some (.d (.ref (ds.drop (j.toNat * sz))), s)
        | some (.ptr id o) => some (.ptr id (o + j.toNat * sz), s)
        | some (.vptr id m o) => some (.vptr id m (o + j.toNat * sz), s)
        | _ => none
      else none
  | .nck x => match x.ev fr with
    | some (.d (.ref ds)) => some (.d (.ref ds), s)
    | some (.ptr id o) => some (.ptr id o, s)
    | some (.vptr id m o) => some (.vptr id m o, s)
    | _ => none
  | .box x => match (x.ev fr).bind AV.cells with
    | some cs => some (.ptr s.length 0, s ++ [.cells cs])
    | none => none
  | .call _ _ => none

/-- What an instruction touches of the own blocks: 0 nothing, 1 it reads, 2 it writes, 3 it makes one. -/
def CI.touch (fr : Fr) : CI → Nat
  | .ld _ x => match x.ev fr with
    | some (.d _) => 0
    | _ => 1
  | .iad _ x _ => match x.ev fr with
    | some (.vec ..) => 1
    | _ => 0
  | .st .. => 2
  | .app .. => 2
  | .box .. | .bsl .. | .mks .. => 3
  | _ => 0

/-! ### Operations of the program as instructions -/

def leafTys (P : Program) : Nat → TypeId → List TypeId
  | 0, _ => []
  | d + 1, t => match P.underlying t with
    | some (.struct fs) => fs.toList.flatMap fun f => leafTys P d f.type
    | some (.array n e) => (List.range n).flatMap fun _ => leafTys P d e
    | _ => [t]

/-- A constant. -/
def cL (P : Program) (t : TypeId) (v : Value) : AV :=
  match v with
  | .slice none 0 0 => match P.underlying t with
    | some (.slice e) => .nil (P.cellsOf e)
    | _ => .nil 0
  | _ => .d (.sc v)
def cA (P : Program) (t : TypeId) (v : Value) : Option AV :=
  match v with
  | .agg cs => if cs.all (·.oneCell') then some (.agg (cs.toList.zipIdx.map fun (u, i) => cL P ((leafTys P 12 t).getD i 0) u)) else none
  | _ => some (cL P t v)

def cX (P : Program) (t : TypeId) : Operand → Option X
  | .tmp n => some (.t n)
  | .const v => (cA P t v).map .c
  | _ => none
def cXo (P : Program) (t : TypeId) : Option Operand → Option (Option X)
  | none => some none
  | some p => (cX P t p).map some
def cXs (P : Program) : List TypeId → List Operand → Option (List X)
  | _, [] => some []
  | ts, p :: l => match cX P (ts.headD 0) p, cXs P ts.tail l with
    | some x, some xs => some (x :: xs)
    | _, _ => none

theorem cL_ok (P : Program) (t : TypeId) (u : Value) (k : Cfg) (w : World) : RL k w u (cL P t u) := by
  unfold cL
  split
  · split <;> rfl
  · exact RD.sc _

theorem cA_ok {P : Program} {t : TypeId} {v : Value} {x : AV} (h : cA P t v = some x) (k : Cfg) (w : World) : RA k w v x := by
  unfold cA at h
  split at h
  · rename_i cs
    split at h
    · rename_i hc
      obtain rfl := Option.some.inj h
      refine ⟨cs.toList, rfl, by simp, fun u hu => ?_, fun i u d hu hd => ?_⟩
      · exact Array.all_eq_true_iff_forall_mem.1 hc u (by simpa using hu)
      · simp only [List.getElem?_map, List.getElem?_zipIdx, Nat.zero_add] at hd
        rw [hu] at hd
        simp at hd
        subst hd
        exact cL_ok ..
    · cases h
  · obtain rfl := Option.some.inj h
    exact (cL_ok P t v k w).toA

theorem cX_ok {P : Program} {t : TypeId} {p : Operand} {x : X} (h : cX P t p = some x) {k : Cfg} {w : World} {a : Act} {fr : Fr} {d : AV} (hd : x.ev fr = some d)
    (hf : ∀ u y, p = .tmp u → look fr u = some y → RA k w (a.tmps.getD u undef) y) : RA k w (a.eval p) d := by
  cases p with
  | tmp n =>
    simp [cX] at h; subst h
    exact hf n d rfl hd
  | const v =>
    unfold cX at h
    obtain ⟨y, hy, rfl⟩ := Option.map_eq_some_iff.1 h
    obtain rfl := Option.some.inj hd
    exact cA_ok hy k w
  | global g => simp [cX] at h
  | func f => simp [cX] at h

theorem OpWp.value {P : Program} {o : Oper} {a : Act} {w : World} {Q : Value → World → Prop} {v : Value} {w' : World} (h : (execOp a.eval o).run P w = .ok (.value v) w') (hq : Q v w') : OpWp P o a w Q := fun QQ => by
  unfold Oper.wp; rw [h]; exact ⟨v, rfl, hq⟩
theorem OpWp.skip {P : Program} {o : Oper} {a : Act} {w : World} {Q : Value → World → Prop} {w' : World} (h : (execOp a.eval o).run P w = .ok .skip w') (hq : Q undef w') : OpWp P o a w Q := fun QQ => by
  unfold Oper.wp; rw [h]; exact ⟨undef, rfl, hq⟩

/-- An operation that only computes. -/
theorem AOp.pure {P : Program} {o : Oper} {fr : Fr} {s : List AObj} {d : AV} (h : ∀ (B : Nat) (k : Cfg) (a : Act) (w : World), Ops k w a o fr → St B k s w → ∃ v, (execOp a.eval o).run P w = .ok (.value v) w ∧ RA k w v d) : AOp P o fr s d s :=
  fun B k a w ho hs => let ⟨v, h1, h2⟩ := h B k a w ho hs; OpWp.value h1 ⟨k, h2, Ext.refl B k w, hs⟩

theorem run_value {P : Program} {w w' : World} {s : Sem Value} {v : Value} (h : s.run P w = .ok v w') : (do pure (Next.value (← s)) : Sem Next).run P w = .ok (.value v) w' := by
  simp only [Sem.run_bind, h, Result.andThen_ok, Sem.run_pure]
theorem run_unit {P : Program} {w w' : World} {s : Sem Unit} (h : s.run P w = .ok () w') : (do s; pure Next.skip : Sem Next).run P w = .ok .skip w' := by
  simp only [Sem.run_bind, h, Result.andThen_ok, Sem.run_pure]

theorem scOf_ok {k : Cfg} {w : World} {v : Value} {x : Option AV} {u : Value} {y : AV} (hx : x = some y) (h : scOf x = some u) (hr : RA k w v y) : v = u := by
  subst hx
  cases y with
  | d y =>
    cases y with
    | sc z => simp [scOf] at h; subst h; have h2 : RD k.I w v (.sc z) := hr; cases h2; rfl
    | _ => simp [scOf] at h
  | _ => simp [scOf] at h
theorem intA_ok {k : Cfg} {w : World} {v : Value} {x : Option AV} {n : Int} {y : AV} (hx : x = some y) (h : intA x = some n) (hr : RA k w v y) : v = .int .i64 n := by
  subst hx
  refine scOf_ok (x := some y) rfl ?_ hr
  cases y with
  | d y =>
    cases y with
    | sc z =>
      cases z with
      | int kk m => cases kk <;> simp [intA] at h; subst h; rfl
      | _ => simp [intA] at h
    | _ => simp [intA] at h
  | _ => simp [intA] at h
theorem slA_ok {k : Cfg} {w : World} {v : Value} {x : Option AV} {sz : Nat} {rows : List (List D)} {y : AV} (hx : x = some y) (h : slA sz x = some rows) (hr : RA k w v y) : RD k.I w v (.sl sz rows) := by
  subst hx
  have : y.toL = some (.sl sz rows) := by
    cases y with
    | d y =>
      cases y with
      | sl s r => simp only [slA] at h; split at h <;> simp at h; rename_i e; subst e; subst h; rfl
      | _ => simp [slA] at h
    | tsl id s r => simp only [slA] at h; split at h <;> simp at h; rename_i e; subst e; subst h; rfl
    | nil s => simp only [slA] at h; split at h <;> simp at h; rename_i e; subst e; subst h; rfl
    | _ => simp [slA] at h
  cases y with
  | agg cs => simp [AV.toL] at this
  | d y => exact RL.toL (x := .d y) hr this
  | tsl id s r => exact RL.toL (x := .tsl id s r) hr this
  | nil s => exact RL.toL (x := .nil s) hr this
  | ptr id off => simp [AV.toL] at this
  | vec id n sz => simp [AV.toL] at this
  | vptr id n off => simp [AV.toL] at this

theorem run_binS {P : Program} (w : World) {op : BinOp} {u v r : Value} (h : binS op u v = some r) (t : TypeId) (x y : Operand) : (do eqGuard op t x y u v; binOp op t u v : Sem Value).run P w = .ok r w := by
  unfold binS at h
  split at h <;> first
    | (cases h; done)
    | (split at h <;> first | (cases h; done) | (rename_i e; subst e; obtain rfl := Option.some.inj h; simp [eqGuard, binOp, Op.intArith, Op.intCmp, go_sem]; done))
    | (obtain rfl := Option.some.inj h; simp [eqGuard, binOp, Op.stringOp, go_sem]; done)
    | skip
  rename_i a b
  split at h
  · rename_i hle
    obtain rfl := Option.some.inj h
    have : ¬ (((a.size + b.size : Nat) : Int) > IntKind.i64.max) := by
      rw [show IntKind.i64.max = 9223372036854775807 by decide]; omega
    simp only [eqGuard, binOp, Op.stringOp, if_neg this]
    simp [go_sem]
  · cases h
end Go.Ab

namespace Go.Ab
open Go Go.RowKit

def compLen (P : Program) : List Operand → List TypeId → Option CI
  | [x], [t] => match P.underlying t, cX P t x with
    | some (.slice _), some x => some (.len x)
    | some .string, some x => some (.lens x)
    | _, _ => none
  | _, _ => none
def compApp (P : Program) (mu : Bool) : List Operand → List TypeId → Option CI
  | [x, y], [t, t'] => match P.underlying t, cX P t x, cX P t y with
    | some (.slice e), some x, some y => match P.info? e with
      | some j => match j.zero with
        | some z => if t = t' ∧ z.cells.size = j.size ∧ 0 < j.size then some (.app mu e j.size j.bytes x y) else none
        | none => none
      | none => none
    | _, _, _ => none
  | _, _ => none
def compCall (P : Program) (mu : Bool) (c : Call) : Option CI :=
  match c.callee with
  | .builtin .len => compLen P c.args.toList c.argTypes.toList
  | .builtin .append => compApp P mu c.args.toList c.argTypes.toList
  | .value (.func f) => (cXs P c.argTypes.toList c.args.toList).map fun xs => .call f xs
  | _ => none

/-- Parts of a struct, of an array, of a slice's elements. -/
def cParts (P : Program) (place : Nat → Option (Nat × Nat)) (ty : Nat → TypeId) : List (Nat × Operand) → Option (List (Nat × Nat × X))
  | [] => some []
  | (i, p) :: l => match place i, cX P (ty i) p, cParts P place ty l with
    | some (off, size), some x, some l' => some ((off, size, x) :: l')
    | _, _, _ => none

def zCells (P : Program) (t : TypeId) (us : List Value) : List AV := us.zipIdx.map fun (u, i) => cL P ((leafTys P 12 t).getD (i % (leafTys P 12 t).length) 0) u

def compBuild (P : Program) (t : TypeId) (parts : List (Nat × Operand)) : Option CI :=
  match P.info? t, P.underlying t with
  | some it, some (.struct fs) => match it.zero, fs.toList.mapM (fun f => (P.info? f.type).map fun i => (f.offset, i.size)) with
    | some z, some places => if z.cells.all (·.oneCell') then (cParts P (places.toArray[·]?) (fun i => ((fs[i]?).map (·.type)).getD 0) parts).map (.bld (zCells P t z.cells.toList)) else none
    | _, _ => none
  | some it, some (.array _ e) => match it.zero, P.info? e with
    | some z, some ie => if z.cells.all (·.oneCell') then (cParts P (fun i => some (i * ie.size, ie.size)) (fun _ => e) parts).map (.bld (zCells P t z.cells.toList)) else none
    | _, _ => none
  | _, _ => none

def zeros (z : Array Value) (n : Nat) : Array Value := (Array.range n).map (z[· % z.size]!)

def compBsl (P : Program) (mu : Bool) (t : TypeId) (n : Nat) (parts : List (Nat × Operand)) : Option CI :=
  match P.underlying t with
  | some (.slice e) => match P.info? e with
    | some ie => match ie.zero with
      | some z => if 0 < ie.size ∧ n * ie.size ≤ 2 ^ 24 ∧ (zeros z.cells (n * ie.size)).all (·.oneCell') = true then
          (cParts P (fun i => some (i * ie.size, ie.size)) (fun _ => e) parts).map (.bsl mu e ie.size n (zCells P e (zeros z.cells (n * ie.size)).toList)) else none
      | none => none
    | none => none
  | _ => none

/-- A row that is never written again and to which nothing is appended. -/
def compBsf (P : Program) (t : TypeId) (n : Nat) (parts : List (Nat × Operand)) : Option CI :=
  match P.underlying t with
  | some (.slice e) => match P.info? e with
    | some ie => match ie.zero with
      | some z => if 0 < ie.size ∧ n * ie.size ≤ 2 ^ 24 ∧ (zeros z.cells (n * ie.size)).all (·.oneCell') = true then
          (cParts P (fun i => some (i * ie.size, ie.size)) (fun _ => e) parts).map (.bsf ie.size n (zCells P e (zeros z.cells (n * ie.size)).toList)) else none
      | none => none
    | none => none
  | _ => none

/-- The mark of a slot whose row is never written again. -/
def frozen (mus : List Nat) (o : Oper) : Bool := (o.dst.map fun d => mus.contains (d + 100000)).getD false

def compMks (P : Program) (mu : Bool) (t : TypeId) (l c : Operand) : Option CI :=
  match P.underlying t, cX P 0 l, cX P 0 c with
  | some (.slice e), some l, some c => match P.info? e with
    | some ie => match ie.zero with
      | some z => if ie.size = 1 ∧ z.oneCell' = true ∧ 0 < ie.bytes then some (.mks mu e ie.bytes (cL P e z) l c) else none
      | none => none
    | none => none
  | _, _, _ => none

def compOp (P : Program) (mus : List Nat) (o : Oper) : Option CI :=
  match o.op with
  | .move x => (cX P o.type x).map .mov
  | .assign x => (cX P o.type x).map .mov
  | .pick c a b => match cX P 0 c, cX P o.type a, cX P o.type b with
    | some c, some a, some b => some (.pick c a b)
    | _, _, _ => none
  | .load t x => match szOf P t, cX P 0 x with
    | some n, some x => some (.ld n x)
    | _, _ => none
  | .store t x v => match P.info? t, cX P 0 x, cX P t v with
    | some i, some x, some v => some (.st i.size x v)
    | _, _, _ => none
  | .fieldAddr t x f => match P.underlying t, cX P 0 x with
    | some (.struct fs), some x => match fs[f]? with
      | some fd => if P.cellsOf fd.type = 0 then none else some (.fad fd.offset x)
      | none => none
    | _, _ => none
  | .indexAddr t x i => match P.underlying t, cX P 0 x, cX P 0 i with
    | some (.slice e), some x, some i => match P.info? e with
      | some j => some (.iad j.size x i)
      | none => none
    | some (.array n e), some x, some i => match P.info? e with
      | some j => some (.iap n j.size x i)
      | none => none
    | _, _, _ => none
  | .field t x f => match P.underlying t, cX P 0 x with
    | some (.struct fs), some x => match fs[f]? with
      | some fd => match szOf P fd.type with
        | some n => some (.fld fd.offset n x)
        | none => none
      | none => none
    | _, _ => none
  | .extract x i => (cX P 0 x).map fun x => .ext x i
  | .binOp op t x y _ => match cX P t x, cX P t y with
    | some x, some y => some (.bin op x y)
    | _, _ => none
  | .unOp .not _ x => (cX P 0 x).map .not
  | .slice t x lo hi none => match P.underlying t, cX P 0 x, cXo P 0 lo, cXo P 0 hi with
    | some (.slice e), some x, some lo, some hi => match P.info? e with
      | some j => some (.slc j.size x lo hi)
      | none => none
    | _, _, _, _ => none
  | .box t x => (cX P t x).map .box
  | .alloc t => match P.info? t with
    | some i => match i.zero with
      | some z => (cA P t z).map fun c => .box (.c c)
      | none => none
    | none => none
  | .build t parts => compBuild P t parts.toList
  | .buildSlice t n parts => if frozen mus o then compBsf P t n parts.toList else compBsl P ((o.dst.map mus.contains).getD false) t n parts.toList
  | .makeSlice t l c => compMks P ((o.dst.map mus.contains).getD false) t l c
  | .convert src dst x => match P.underlying src, P.underlying dst, cX P 0 x with
    | some (.int _), some (.int k), some x => some (.cnv k x)
    | _, _, _ => none
  | .nilCheck x => (cX P 0 x).map .nck
  | .call c => compCall P ((o.dst.map mus.contains).getD false) c
  | _ => none

section
variable {P : Program} {o : Oper} {fr : Fr} {s s' : List AObj} {d : AV}

theorem ops_x {k : Cfg} {w : World} {a : Act} {o : Oper} {fr : Fr} (h : Ops k w a o fr) {p : Operand} (hp : p ∈ o.op.operands) : ∀ u y, p = .tmp u → look fr u = some y → RA k w (a.tmps.getD u undef) y :=
  fun u y e hl => h u y (by rw [← e]; exact hp) hl

/-- The value of an operand. -/
theorem ev_ok {k : Cfg} {w : World} {a : Act} {o : Oper} {fr : Fr} (ho : Ops k w a o fr) {p : Operand} (hp : p ∈ o.op.operands) {t : TypeId} {x : X} (hx : cX P t p = some x) {c : AV} (hc : x.ev fr = some c) : RA k w (a.eval p) c :=
  cX_ok hx hc (ops_x ho hp)
theorem sc_ok {k : Cfg} {w : World} {a : Act} {o : Oper} {fr : Fr} (ho : Ops k w a o fr) {p : Operand} (hp : p ∈ o.op.operands) {t : TypeId} {x : X} (hx : cX P t p = some x) {u : Value} (hu : scOf (x.ev fr) = some u) : a.eval p = u := by
  cases hc : x.ev fr with
  | none => rw [hc] at hu; cases hu
  | some c => exact scOf_ok hc hu (ev_ok ho hp hx hc)
theorem int_ok {k : Cfg} {w : World} {a : Act} {o : Oper} {fr : Fr} (ho : Ops k w a o fr) {p : Operand} (hp : p ∈ o.op.operands) {t : TypeId} {x : X} (hx : cX P t p = some x) {n : Int} (hu : intA (x.ev fr) = some n) : a.eval p = .int .i64 n := by
  cases hc : x.ev fr with
  | none => rw [hc] at hu; cases hu
  | some c => exact intA_ok hc hu (ev_ok ho hp hx hc)
theorem sl_ok {k : Cfg} {w : World} {a : Act} {o : Oper} {fr : Fr} (ho : Ops k w a o fr) {p : Operand} (hp : p ∈ o.op.operands) {t : TypeId} {x : X} (hx : cX P t p = some x) {sz : Nat} {rows : List (List D)} (hu : slA sz (x.ev fr) = some rows) : RD k.I w (a.eval p) (.sl sz rows) := by
  cases hc : x.ev fr with
  | none => rw [hc] at hu; cases hu
  | some c => exact slA_ok hc hu (ev_ok ho hp hx hc)

theorem ok_mov {x : Operand} {t : TypeId} {y : X} (ho : o.op = .move x ∨ o.op = .assign x) (hx : cX P t x = some y) (h : (CI.mov y).sem fr s = some (d, s')) : AOp P o fr s d s' := by
  simp only [CI.sem] at h
  obtain ⟨c, hc, he⟩ := Option.map_eq_some_iff.1 h
  obtain ⟨rfl, rfl⟩ := Prod.mk.inj he
  refine AOp.pure fun B k a w hops hst => ⟨a.eval x, ?_, ev_ok (p := x) hops (by rcases ho with ho | ho <;> rw [ho] <;> simp [Op.operands]) hx hc⟩
  unfold execOp
  rcases ho with ho | ho <;> rw [ho] <;> rfl

theorem ok_pick {c a b : Operand} {t : TypeId} {x y z : X} (ho : o.op = .pick c a b) (hx : cX P 0 c = some x) (hy : cX P t a = some y) (hz : cX P t b = some z) (h : (CI.pick x y z).sem fr s = some (d, s')) : AOp P o fr s d s' := by
  simp only [CI.sem] at h
  split at h
  · rename_i hc
    obtain ⟨e, he, hh⟩ := Option.map_eq_some_iff.1 h
    obtain ⟨rfl, rfl⟩ := Prod.mk.inj hh
    refine AOp.pure fun B k ac w hops hst => ⟨ac.eval a, ?_, ev_ok (p := a) hops (by rw [ho]; simp [Op.operands]) hy he⟩
    have := sc_ok (p := c) hops (by rw [ho]; simp [Op.operands]) hx hc
    unfold execOp
    rw [ho]
    simp [this, asBool]
  · rename_i hc
    obtain ⟨e, he, hh⟩ := Option.map_eq_some_iff.1 h
    obtain ⟨rfl, rfl⟩ := Prod.mk.inj hh
    refine AOp.pure fun B k ac w hops hst => ⟨ac.eval b, ?_, ev_ok (p := b) hops (by rw [ho]; simp [Op.operands]) hz he⟩
    have := sc_ok (p := c) hops (by rw [ho]; simp [Op.operands]) hx hc
    unfold execOp
    rw [ho]
    simp [this, asBool]
  · cases h

/-- A load. -/
theorem run_load1 {w : World} {p : Addr} {v : Value} (hc : w.cell? p = some v) {t : TypeId} (hs : szOf P t = some none) : (Instr.loadAt t (.pointer (some p))).run P w = .ok v w := by
  obtain ⟨d, i, hu, hi, hn⟩ := szOf_inv hs
  have hr : d.isRow = false := by cases h : d.isRow <;> simp [h] at hn ⊢
  simp [Instr.loadAt, Instr.sureAddr, loadVar, run_isAgg hu, hr, hc]

theorem szOf_row {t : TypeId} {m : Nat} (hs : szOf P t = some (some m)) : ∃ d, P.underlying t = some d ∧ d.isRow = true ∧ (P.info? t).map (·.size) = some m := by
  obtain ⟨d, i, hu, hi, hn⟩ := szOf_inv hs
  have hr : d.isRow = true := by cases h : d.isRow <;> simp [h] at hn ⊢
  rw [hr] at hn
  simp at hn
  exact ⟨d, hu, hr, by rw [hi]; simp [hn]⟩

theorem run_loadm {w : World} {b off : Nat} {us : List Value} (hc : w.rangeAt b off us) {t : TypeId} (hs : szOf P t = some (some us.length)) : (Instr.loadAt t (.pointer (some ⟨b, off, none⟩))).run P w = .ok (.agg us.toArray) w := by
  obtain ⟨d, h1, h2, h3⟩ := szOf_row hs
  simp only [Instr.loadAt, Instr.sureAddr, Sem.run_bind, Sem.run_pure, Result.andThen_ok, run_loadVar_mid w b off t us d hc h1 h2 h3]

theorem cells_at {w : World} {b t : Nat} {us : List Value} (h : w.heap[b]? = some (.cells us.toArray t (0, 0))) (i : Nat) : w.cell? ⟨b, i, none⟩ = us[i]? := by
  rw [cell_of_row w b i _ t (0, 0) h]; simp

/-- Where the cells of a row that is written lie. -/
theorem vec_at {B : Nat} {k : Cfg} {w : World} (hst : St B k s w) {id e sz n : Nat} {ds : List AV} (hid : s[id]? = some (.vec e sz ds)) (hsz : 0 < sz) (hn : ds.length = n * sz) {b : Nat}
    (hb : ∃ u n', k.own[id]? = some (.row u n') ∧ n ≤ n' ∧ (n = n' → u.ownBlock = some b)) :
    ∃ u xs cap cur, k.own[id]? = some (.row u n) ∧ w.ownsRow B e sz u n xs ∧ u = .slice (some ⟨b, 0, none⟩) n cap ∧ B ≤ b ∧ w.heap[b]? = some (.cells cur e (0, 0)) ∧ n ≤ cap ∧ cap ≤ maxLen ∧ cur.size = cap * sz ∧ cur.toList.take (n * sz) = xs ∧ RAs k w xs ds ∧ k.I b = 0 ∧ ∀ (i : Nat) (x : Value), xs[i]? = some x → w.cell? ⟨b, i, none⟩ = some x := by
  obtain ⟨u, n', h1, h2, h3⟩ := hb
  obtain ⟨u2, n2, xs, g1, g2, g3, g4, g5⟩ := hst.vec id e sz ds hid
  rw [h1] at g1; cases g1
  have hnn : n = n' := by
    rw [hn] at g4
    exact Nat.eq_of_mul_eq_mul_right hsz g4
  subst hnn
  have hbk := h3 rfl
  rcases g2.2 with ⟨rfl, _⟩ | ⟨g, cap, cur, rfl, k2, k3, k4, k5, k6, k7⟩
  · simp [Value.ownBlock] at hbk
  · simp [Value.ownBlock] at hbk
    subst hbk
    refine ⟨_, xs, cap, cur, h1, g2, rfl, k2, k3, k4, k5, k6, k7, g5, g3 _ rfl, fun i x hx => ?_⟩
    have := g2.cells (g := g) rfl i x hx
    rw [Addr.add_mid, Nat.zero_add] at this
    exact this

theorem ok_ld {t : TypeId} {p : Operand} {n : Option Nat} {x : X} (ho : o.op = .load t p) (hn : szOf P t = some n) (hx : cX P 0 p = some x) (h : (CI.ld n x).sem fr s = some (d, s')) : AOp P o fr s d s' := by
  have hp : p ∈ o.op.operands := by rw [ho]; simp [Op.operands]
  have hrun : ∀ (a : Act) (w : World) (v : Value), (Instr.loadAt t (a.eval p)).run P w = .ok v w → (execOp a.eval o).run P w = .ok (.value v) w := fun a w v hr => by
    unfold execOp; rw [ho]; exact run_value hr
  cases n with
  | none =>
    simp only [CI.sem] at h
    split at h
    · rename_i c ds hc
      obtain ⟨rfl, rfl⟩ := Prod.mk.inj (Option.some.inj h)
      refine AOp.pure fun B k a w hops hst => ?_
      have hv : RD k.I w (a.eval p) (.ref (c :: ds)) := ev_ok hops hp hx hc
      generalize hu : a.eval p = u at hv
      cases hv with
      | ref b off us ds h1 h2 h3 h4 =>
        cases us with
        | nil => simp at h1
        | cons u us =>
          refine ⟨u, hrun a w u ?_, h4 0 u c rfl rfl⟩
          rw [hu]
          exact run_load1 (by have := (h3 0 u rfl).2; simpa using this) hn
    · rename_i id off hc
      split at h
      · rename_i cs hid
        obtain ⟨e, he, hh⟩ := Option.map_eq_some_iff.1 h
        obtain ⟨rfl, rfl⟩ := Prod.mk.inj hh
        refine AOp.pure fun B k a w hops hst => ?_
        obtain ⟨b, hb, hv⟩ : RL k w (a.eval p) (.ptr id off) := ev_ok hops hp hx hc
        obtain ⟨b', t', us, g1, g2, g3⟩ := hst.cells id cs hid
        rw [hb] at g1; simp at g1; subst g1
        obtain ⟨u, hu1, hu2, hu3⟩ := g3.get he
        refine ⟨u, hrun a w u ?_, hu3.toA⟩
        rw [hv]
        exact run_load1 (by rw [cells_at g2]; exact hu1) hn
      · cases h
    · rename_i id m off hc
      split at h
      · rename_i e sz ds hid
        split at h
        · rename_i hcc
          obtain ⟨x, he, hh⟩ := Option.map_eq_some_iff.1 h
          obtain ⟨rfl, rfl⟩ := Prod.mk.inj hh
          refine AOp.pure fun B k a w hops hst => ?_
          obtain ⟨b, hv, hb⟩ : RL k w (a.eval p) (.vptr id m off) := ev_ok hops hp hx hc
          obtain ⟨u, xs, cap, cur, g1, g2, g3, g4, g5, g6, g7, g8, g9, g10, g11, g12⟩ := vec_at hst hid hcc.1 hcc.2 hb
          obtain ⟨v, hv1, hv2, hv3⟩ := g10.get he
          refine ⟨v, hrun a w v ?_, hv3.toA⟩
          rw [hv]
          exact run_load1 (g12 _ _ hv1) hn
        · cases h
      · cases h
    · cases h
  | some m =>
    simp only [CI.sem] at h
    split at h
    · rename_i ds hc
      split at h
      · rename_i hm
        obtain ⟨rfl, rfl⟩ := Prod.mk.inj (Option.some.inj h)
        refine AOp.pure fun B k a w hops hst => ?_
        have hv : RD k.I w (a.eval p) (.ref ds) := ev_ok hops hp hx hc
        generalize hu : a.eval p = u at hv
        cases hv with
        | ref b off us ds h1 h2 h3 h4 =>
          have h5 : RDs k.I w (us.take m) (ds.take m) := RDs.take ⟨h1, h2, h4⟩ m
          have hlen : (us.take m).length = m := by simp [h1]; omega
          refine ⟨.agg (us.take m).toArray, hrun a w _ ?_, .agg _ _ h5.1 h5.2.1 h5.2.2⟩
          rw [hu]
          refine run_loadm (fun j v hj => ?_) (by rw [hlen]; exact hn)
          rw [List.getElem?_take] at hj
          split at hj
          · exact (h3 j v hj).2
          · cases hj
      · cases h
    · rename_i id off hc
      split at h
      · rename_i cs hid
        split at h
        · rename_i hm
          obtain ⟨rfl, rfl⟩ := Prod.mk.inj (Option.some.inj h)
          refine AOp.pure fun B k a w hops hst => ?_
          obtain ⟨b, hb, hv⟩ : RL k w (a.eval p) (.ptr id off) := ev_ok hops hp hx hc
          obtain ⟨b', t', us, g1, g2, g3⟩ := hst.cells id cs hid
          rw [hb] at g1; simp at g1; subst g1
          have h5 := (g3.drop off).take m
          have hlen : ((us.drop off).take m).length = m := by rw [h5.1]; simp; omega
          refine ⟨.agg ((us.drop off).take m).toArray, hrun a w _ ?_, _, rfl, h5⟩
          rw [hv]
          refine run_loadm (fun j v hj => ?_) (by rw [hlen]; exact hn)
          rw [List.getElem?_take] at hj
          split at hj
          · rw [List.getElem?_drop] at hj
            rw [cells_at g2]; exact hj
          · cases hj
        · cases h
      · cases h
    · rename_i id n' off hc
      split at h
      · rename_i e sz ds hid
        split at h
        · rename_i hcc
          obtain ⟨c1, c2, c3⟩ := hcc
          obtain ⟨rfl, rfl⟩ := Prod.mk.inj (Option.some.inj h)
          refine AOp.pure fun B k a w hops hst => ?_
          obtain ⟨b, hv, hb⟩ : RL k w (a.eval p) (.vptr id n' off) := ev_ok hops hp hx hc
          obtain ⟨u, xs, cap, cur, g1, g2, g3, g4, g5, g6, g7, g8, g9, g10, g11, g12⟩ := vec_at hst hid c1 c2 hb
          have h5 := (g10.drop off).take m
          have hlen : ((xs.drop off).take m).length = m := by rw [h5.1]; simp; omega
          refine ⟨.agg ((xs.drop off).take m).toArray, hrun a w _ ?_, _, rfl, h5⟩
          rw [hv]
          refine run_loadm (fun j v hj => ?_) (by rw [hlen]; exact hn)
          rw [List.getElem?_take] at hj
          split at hj
          · rw [List.getElem?_drop] at hj
            exact g12 _ _ hj
          · cases hj
        · cases h
      · cases h
    · cases h

theorem ok_fad {t : TypeId} {p : Operand} {f : Nat} {fs : Array Field} {fd : Field} {x : X} (ho : o.op = .fieldAddr t p f) (hu : P.underlying t = some (.struct fs)) (hf : fs[f]? = some fd) (hz : P.cellsOf fd.type ≠ 0) (hx : cX P 0 p = some x)
    (h : (CI.fad fd.offset x).sem fr s = some (d, s')) : AOp P o fr s d s' := by
  have hp : p ∈ o.op.operands := by rw [ho]; simp [Op.operands]
  have hrun : ∀ (a : Act) (w : World) (b off : Nat), a.eval p = .pointer (some ⟨b, off, none⟩) → (execOp a.eval o).run P w = .ok (.value (.pointer (some ⟨b, off + fd.offset, none⟩))) w := fun a w b off he => by
    unfold execOp; rw [ho]
    refine run_value ?_
    have hsz : (sizeOf fd.type).run P w = .ok (P.cellsOf fd.type) w := by
      unfold Program.cellsOf at hz ⊢
      unfold sizeOf typeInfo
      cases hi : P.info? fd.type with
      | none => simp [hi] at hz
      | some i => simp [hi]
    simp only [Instr.fieldAt, Sem.run_bind, run_underlying hu, Result.andThen_ok, hf, he, Instr.sureAddr, Sem.run_pure, fieldPlace, hsz, if_neg hz, Addr.add_mid]
  simp only [CI.sem] at h
  split at h
  · rename_i ds hc
    obtain ⟨rfl, rfl⟩ := Prod.mk.inj (Option.some.inj h)
    refine AOp.pure fun B k a w hops hst => ?_
    have hv : RD k.I w (a.eval p) (.ref ds) := ev_ok hops hp hx hc
    generalize hu' : a.eval p = u at hv
    cases hv with
    | ref b off us ds h1 h2 h3 h4 =>
      refine ⟨_, hrun a w b off hu', ?_⟩
      have h5 : RDs k.I w (us.drop fd.offset) (ds.drop fd.offset) := RDs.drop ⟨h1, h2, h4⟩ fd.offset
      refine .ref _ _ _ _ h5.1 h5.2.1 (fun i u hu => ?_) h5.2.2
      rw [List.getElem?_drop] at hu
      rw [Nat.add_assoc]
      exact h3 _ u hu
  · rename_i id off hc
    obtain ⟨rfl, rfl⟩ := Prod.mk.inj (Option.some.inj h)
    refine AOp.pure fun B k a w hops hst => ?_
    obtain ⟨b, hb, hv⟩ : RL k w (a.eval p) (.ptr id off) := ev_ok hops hp hx hc
    exact ⟨_, hrun a w b off hv, b, hb, rfl⟩
  · rename_i id n off hc
    obtain ⟨rfl, rfl⟩ := Prod.mk.inj (Option.some.inj h)
    refine AOp.pure fun B k a w hops hst => ?_
    obtain ⟨b, hv, hb⟩ : RL k w (a.eval p) (.vptr id n off) := ev_ok hops hp hx hc
    exact ⟨_, hrun a w b off hv, b, rfl, hb⟩
  · cases h

theorem ok_iad {t e : TypeId} {j : TypeInfo} {p q : Operand} {x y : X} (ho : o.op = .indexAddr t p q) (hu : P.underlying t = some (.slice e)) (hj : P.info? e = some j) (hx : cX P 0 p = some x) (hy : cX P 0 q = some y)
    (h : (CI.iad j.size x y).sem fr s = some (d, s')) : AOp P o fr s d s' := by
  have hp : p ∈ o.op.operands := by rw [ho]; simp [Op.operands]
  have hq : q ∈ o.op.operands := by rw [ho]; simp [Op.operands]
  have hrun : ∀ (a : Act) (w : World) (b off m c : Nat) (n : Int), a.eval p = .slice (some ⟨b, off, none⟩) m c → a.eval q = .int .i64 n → 0 ≤ n → n < m → (execOp a.eval o).run P w = .ok (.value (.pointer (some ⟨b, off + n.toNat * j.size, none⟩))) w := fun a w b off m c n h1 h2 h3 h4 => by
    unfold execOp; rw [ho]
    refine run_value ?_
    have hcond : 0 ≤ n ∧ n < (m : Int) := ⟨h3, h4⟩
    simp only [Instr.indexAt, h1, h2, asIntOf, Sem.run_bind, Sem.run_pure, Result.andThen_ok, run_underlying hu, if_pos hcond, sizeOf, typeInfo, run_program, hj, Addr.add_mid]
  simp only [CI.sem] at h
  split at h
  · cases h
  · rename_i n hi
    split at h
    · rename_i h0
      split at h
      · rename_i id m sz' hc
        split at h
        · rename_i e' sz2 ds hid
          split at h
          · rename_i hcc
            obtain ⟨rfl, rfl, c1, c2, c3⟩ := hcc
            obtain ⟨rfl, rfl⟩ := Prod.mk.inj (Option.some.inj h)
            refine AOp.pure fun B k a w hops hst => ?_
            obtain ⟨⟨ad, c, hv⟩, u, n', hk, hle, heq⟩ : RL k w (a.eval p) (.vec id m j.size) := ev_ok hops hp hx hc
            obtain ⟨u2, n2, xs, g1, g2, g3, g4, g5⟩ := hst.vec id e' j.size ds hid
            rw [hk] at g1; cases g1
            have hmn : m = n' := by
              rw [c2] at g4
              exact Nat.eq_of_mul_eq_mul_right c1 g4
            subst hmn
            have hvu := heq rfl
            rw [hvu] at hv
            rcases g2.2 with ⟨_, h9⟩ | ⟨g, cap, cur, hvv, k2, _⟩
            · omega
            · refine ⟨_, hrun a w g 0 m cap n (by rw [hvu]; exact hvv) (int_ok hops hq hy hi) h0 (by omega), g, by rw [Nat.zero_add], u, m, hk, Nat.le_refl _, fun _ => by rw [hvv]; rfl⟩
          · cases h
        · cases h
      · split at h
        · rename_i rows hr
          split at h
          · rename_i r hrow
            obtain ⟨rfl, rfl⟩ := Prod.mk.inj (Option.some.inj h)
            refine AOp.pure fun B k a w hops hst => ?_
            have hv := sl_ok hops hp hx hr
            obtain ⟨b, off, c, hv2, hv3⟩ := hv.sl_at hrow
            have hlt : n.toNat < rows.length := (List.getElem?_eq_some_iff.1 hrow).1
            exact ⟨_, hrun a w b off rows.length c n hv2 (int_ok hops hq hy hi) h0 (by omega), hv3⟩
          · cases h
        · cases h
    · cases h

theorem ok_fld {t : TypeId} {p : Operand} {f : Nat} {fs : Array Field} {fd : Field} {n : Option Nat} {x : X} (ho : o.op = .field t p f) (hu : P.underlying t = some (.struct fs)) (hf : fs[f]? = some fd) (hn : szOf P fd.type = some n) (hx : cX P 0 p = some x)
    (h : (CI.fld fd.offset n x).sem fr s = some (d, s')) : AOp P o fr s d s' := by
  have hp : p ∈ o.op.operands := by rw [ho]; simp [Op.operands]
  cases n with
  | none =>
    simp only [CI.sem] at h
    split at h
    · rename_i cs hc
      obtain ⟨c, hc1, hc2⟩ := Option.bind_eq_some_iff.1 hc
      obtain ⟨e, he, hh⟩ := Option.map_eq_some_iff.1 h
      obtain ⟨rfl, rfl⟩ := Prod.mk.inj hh
      refine AOp.pure fun B k a w hops hst => ?_
      obtain ⟨us, hv, hus⟩ := (ev_ok hops hp hx hc1).row hc2
      obtain ⟨u, hu1, hu2, hu3⟩ := hus.get he
      refine ⟨u, ?_, hu3.toA⟩
      unfold execOp; rw [ho]
      refine run_value ?_
      obtain ⟨dd, i, hu2, hi, hnn⟩ := szOf_inv hn
      have hr : dd.isRow = false := by cases h : dd.isRow <;> simp [h] at hnn ⊢
      have hagg : (isAgg fd.type).run P w = .ok false w := by rw [run_isAgg hu2, hr]
      have hu1' : us.toArray[fd.offset]? = some u := by simpa using hu1
      simp only [Instr.field, hv, Sem.run_bind, run_underlying hu, Result.andThen_ok, hf, asAgg, Sem.run_pure, part, hagg, Bool.false_eq_true, if_false, hu1']
    · cases h
  | some m =>
    simp only [CI.sem] at h
    split at h
    · rename_i cs hc
      obtain ⟨c, hc1, hc2⟩ := Option.bind_eq_some_iff.1 hc
      split at h
      · rename_i hm
        obtain ⟨rfl, rfl⟩ := Prod.mk.inj (Option.some.inj h)
        refine AOp.pure fun B k a w hops hst => ?_
        obtain ⟨us, hv, hus⟩ := (ev_ok hops hp hx hc1).row hc2
        have h5 := (hus.drop fd.offset).take m
        refine ⟨.agg ((us.drop fd.offset).take m).toArray, ?_, _, rfl, h5⟩
        unfold execOp; rw [ho]
        refine run_value ?_
        obtain ⟨dd, h1, h2, h3⟩ := szOf_row hn
        have hagg : (isAgg fd.type).run P w = .ok true w := by rw [run_isAgg h1, h2]
        cases hi : P.info? fd.type with
        | none => simp [hi] at h3
        | some i =>
          simp [hi] at h3
          have hex : us.toArray.extract fd.offset (fd.offset + m) = ((us.drop fd.offset).take m).toArray := by
            apply Array.ext'; simp [List.take_drop]
          simp only [Instr.field, hv, Sem.run_bind, run_underlying hu, Result.andThen_ok, hf, asAgg, Sem.run_pure, part, hagg, if_true, sizeOf, typeInfo, run_program, hi, h3, hex]
      · cases h
    · cases h

theorem ok_ext {p : Operand} {i : Nat} {x : X} (ho : o.op = .extract p i) (hx : cX P 0 p = some x) (h : (CI.ext x i).sem fr s = some (d, s')) : AOp P o fr s d s' := by
  have hp : p ∈ o.op.operands := by rw [ho]; simp [Op.operands]
  simp only [CI.sem] at h
  split at h
  · rename_i ds hc
    obtain ⟨e, he, hh⟩ := Option.map_eq_some_iff.1 h
    obtain ⟨rfl, rfl⟩ := Prod.mk.inj hh
    refine AOp.pure fun B k a w hops hst => ?_
    have hv : RD k.I w (a.eval p) (.tup ds) := ev_ok hops hp hx hc
    generalize hu' : a.eval p = u at hv
    cases hv with
    | tup us ds h1 h2 =>
      have hi := (List.getElem?_eq_some_iff.1 he).1
      have hus : us[i]? = some us[i] := List.getElem?_eq_getElem (by omega)
      refine ⟨us[i], ?_, h2 i _ e hus he⟩
      unfold execOp; rw [ho]
      refine run_value ?_
      have : us.toArray[i]? = some us[i] := by simpa using hus
      simp only [Instr.extract, hu', this, Sem.run_pure]
  · cases h

theorem ok_bin {op : BinOp} {t t' : TypeId} {p q : Operand} {x y : X} (ho : o.op = .binOp op t p q t') (hx : cX P t p = some x) (hy : cX P t q = some y) (h : (CI.bin op x y).sem fr s = some (d, s')) : AOp P o fr s d s' := by
  have hp : p ∈ o.op.operands := by rw [ho]; simp [Op.operands]
  have hq : q ∈ o.op.operands := by rw [ho]; simp [Op.operands]
  simp only [CI.sem] at h
  split at h
  · rename_i u v hu hv
    obtain ⟨r, hr, hh⟩ := Option.map_eq_some_iff.1 h
    obtain ⟨rfl, rfl⟩ := Prod.mk.inj hh
    refine AOp.pure fun B k a w hops hst => ⟨r, ?_, RD.sc r⟩
    unfold execOp; rw [ho]
    refine run_value ?_
    rw [sc_ok hops hp hx hu, sc_ok hops hq hy hv]
    exact run_binS w hr t p q
  · cases h

theorem ok_not {t : TypeId} {p : Operand} {x : X} (ho : o.op = .unOp .not t p) (hx : cX P 0 p = some x) (h : (CI.not x).sem fr s = some (d, s')) : AOp P o fr s d s' := by
  have hp : p ∈ o.op.operands := by rw [ho]; simp [Op.operands]
  simp only [CI.sem] at h
  split at h
  · rename_i b hb
    obtain ⟨rfl, rfl⟩ := Prod.mk.inj (Option.some.inj h)
    refine AOp.pure fun B k a w hops hst => ⟨.bool !b, ?_, RD.sc _⟩
    unfold execOp; rw [ho]
    refine run_value ?_
    rw [sc_ok hops hp hx hb]
    simp [Op.unary]
  · cases h

theorem sz_len {I : Nat → Nat} {w : World} {v : Value} {sz : Nat} {rows : List (List D)} (h : RD I w v (.sl sz rows)) : ∃ a c, v = .slice a rows.length c := by
  obtain ⟨a, c, us, h1, _⟩ := h.sl_inv; exact ⟨a, c, h1⟩

theorem ok_len {t e : TypeId} {p : Operand} {x : X} (ho : o.op = .call { callee := .builtin .len, args := #[p], argTypes := #[t] }) (hu : P.underlying t = some (.slice e)) (hx : cX P t p = some x)
    (h : (CI.len x).sem fr s = some (d, s')) : AOp P o fr s d s' := by
  have hp : p ∈ o.op.operands := by rw [ho]; simp [Op.operands, Call.operands]
  have sl : ∀ (rows : List (List D)) (sz : Nat), d = .d (.sc (.int .i64 rows.length)) → s' = s → (∀ (k : Cfg) (w : World) (a : Act), Ops k w a o fr → RD k.I w (a.eval p) (.sl sz rows)) → AOp P o fr s d s' := by
    rintro rows sz rfl rfl hv
    refine AOp.pure fun B k a w hops hst => ⟨.int .i64 rows.length, ?_, RD.sc _⟩
    obtain ⟨ad, c, hv2⟩ := sz_len (hv k w a hops)
    unfold execOp; rw [ho]
    simp only [resolve, invoke, builtin, Sem.run_bind, Sem.run_pure, Result.andThen_ok, List.map_toArray, List.map_cons, List.map_nil, hv2]
    simp [Builtin.len_, run_underlying hu, goInt]
  simp only [CI.sem] at h
  split at h
  · rename_i sz rows hc
    obtain ⟨rfl, rfl⟩ := Prod.mk.inj (Option.some.inj h)
    exact sl rows sz rfl rfl (fun k w a hops => ev_ok hops hp hx hc)
  · rename_i id sz rows hc
    obtain ⟨rfl, rfl⟩ := Prod.mk.inj (Option.some.inj h)
    exact sl rows sz rfl rfl (fun k w a hops => (show RL k w _ (.tsl id sz rows) from ev_ok hops hp hx hc).1)
  · rename_i sz hc
    obtain ⟨rfl, rfl⟩ := Prod.mk.inj (Option.some.inj h)
    exact sl [] sz rfl rfl (fun k w a hops => RL.toL (x := .nil sz) (ev_ok hops hp hx hc) rfl)
  · rename_i id n sz hc
    obtain ⟨rfl, rfl⟩ := Prod.mk.inj (Option.some.inj h)
    refine AOp.pure fun B k a w hops hst => ⟨.int .i64 n, ?_, RD.sc _⟩
    obtain ⟨⟨ad, c, hv2⟩, _⟩ : RL k w (a.eval p) (.vec id n sz) := ev_ok hops hp hx hc
    unfold execOp; rw [ho]
    simp only [resolve, invoke, builtin, Sem.run_bind, Sem.run_pure, Result.andThen_ok, List.map_toArray, List.map_cons, List.map_nil, hv2]
    simp [Builtin.len_, run_underlying hu, goInt]
  · cases h

theorem ok_lens {t : TypeId} {p : Operand} {x : X} (ho : o.op = .call { callee := .builtin .len, args := #[p], argTypes := #[t] }) (hu : P.underlying t = some .string) (hx : cX P t p = some x)
    (h : (CI.lens x).sem fr s = some (d, s')) : AOp P o fr s d s' := by
  have hp : p ∈ o.op.operands := by rw [ho]; simp [Op.operands, Call.operands]
  simp only [CI.sem] at h
  split at h
  · rename_i b hc
    obtain ⟨rfl, rfl⟩ := Prod.mk.inj (Option.some.inj h)
    refine AOp.pure fun B k a w hops hst => ⟨.int .i64 b.size, ?_, RD.sc _⟩
    unfold execOp; rw [ho]
    simp only [resolve, invoke, builtin, Sem.run_bind, Sem.run_pure, Result.andThen_ok, List.map_toArray, List.map_cons, List.map_nil, sc_ok hops hp hx hc]
    simp [Builtin.len_, run_underlying hu, goInt]
  · cases h

theorem boundA_ok {k : Cfg} {w : World} {a : Act} (hops : Ops k w a o fr) {q : Option Operand} (hq : ∀ p, q = some p → p ∈ o.op.operands) {y : Option X} (hy : cXo P 0 q = some y) {dft : Nat} {n : Int} (hn : boundA fr dft y = some n) :
    (q = none ∧ n = dft) ∨ ∃ p, q = some p ∧ a.eval p = .int .i64 n := by
  cases q with
  | none => simp [cXo] at hy; subst hy; simp [boundA] at hn; exact .inl ⟨rfl, hn.symm⟩
  | some p =>
    unfold cXo at hy
    obtain ⟨x, hx, rfl⟩ := Option.map_eq_some_iff.1 hy
    exact .inr ⟨p, rfl, int_ok hops (hq p rfl) hx hn⟩

theorem ok_slc {t e : TypeId} {j : TypeInfo} {p : Operand} {lo hi : Option Operand} {x : X} {l h2 : Option X} (ho : o.op = .slice t p lo hi none) (hu : P.underlying t = some (.slice e)) (hj : P.info? e = some j) (hx : cX P 0 p = some x) (hl : cXo P 0 lo = some l) (hh : cXo P 0 hi = some h2)
    (h : (CI.slc j.size x l h2).sem fr s = some (d, s')) : AOp P o fr s d s' := by
  have hp : p ∈ o.op.operands := by rw [ho]; simp [Op.operands]
  have hlo : ∀ q, lo = some q → q ∈ o.op.operands := fun q hq => by rw [ho, hq]; simp [Op.operands]
  have hhi : ∀ q, hi = some q → q ∈ o.op.operands := fun q hq => by rw [ho, hq]; simp [Op.operands]
  simp only [CI.sem] at h
  split at h
  · rename_i rows hr
    split at h
    · rename_i n m hn hm
      split at h
      · rename_i hc
        obtain ⟨c1, c2, c3⟩ := hc
        obtain ⟨rfl, rfl⟩ := Prod.mk.inj (Option.some.inj h)
        refine AOp.pure fun B k a w hops hst => ?_
        have hv := sl_ok hops hp hx hr
        obtain ⟨ad, c, hv2⟩ := sz_len hv
        rw [hv2] at hv
        have hpart := hv.sl_part (lo := n.toNat) (hi := m.toNat) (by omega) (by omega)
        have hcap : rows.length ≤ c := by
          obtain ⟨a', c', us, e1, _, e3, _⟩ := hv.sl_inv
          cases e1; exact e3
        refine ⟨_, ?_, hpart⟩
        unfold execOp; rw [ho]
        refine run_value ?_
        have hb : (Instr.sliceBounds true rows.length c (lo.map a.eval) (hi.map a.eval) none).run P w = .ok (n.toNat, m.toNat, c) w := by
          have r1 : ∀ code, (Instr.sliceBound (.int .i64 m) c code).run P w = .ok m.toNat w := fun code => run_sliceBound w .i64 m c _ (by omega) (by omega)
          have r2 : ∀ code, (Instr.sliceBound (.int .i64 n) m.toNat code).run P w = .ok n.toNat w := fun code => run_sliceBound w .i64 n m.toNat _ c1 (by omega)
          rcases boundA_ok hops hhi hh hm with ⟨rfl, rfl⟩ | ⟨q, rfl, he⟩ <;> rcases boundA_ok hops hlo hl hn with ⟨rfl, rfl⟩ | ⟨q', rfl, he'⟩
          · simp [Instr.sliceBounds]
          · have r3 : ∀ code, (Instr.sliceBound (.int .i64 n) rows.length code).run P w = .ok n.toNat w := fun code => by simpa using r2 code
            simp [Instr.sliceBounds, he', r3]
          · simp [Instr.sliceBounds, he, r1]
          · simp [Instr.sliceBounds, he, he', r1, r2]
        simp only [Instr.sliceAt, Instr.slice, hv2, Option.map_none, Sem.run_bind, run_underlying hu, Result.andThen_ok, hb, sizeOf, typeInfo, run_program, hj, Sem.run_pure]
      · cases h
    · cases h
  · cases h

theorem ok_box {t : TypeId} {p : Operand} {x : X} (ho : o.op = .box t p) (hx : cX P t p = some x) (h : (CI.box x).sem fr s = some (d, s')) : AOp P o fr s d s' := by
  have hp : p ∈ o.op.operands := by rw [ho]; simp [Op.operands]
  simp only [CI.sem] at h
  split at h
  · rename_i cs hc
    obtain ⟨c, hc1, hc2⟩ := Option.bind_eq_some_iff.1 hc
    obtain ⟨rfl, rfl⟩ := Prod.mk.inj (Option.some.inj h)
    intro B k a w hops hst
    have hcells := (ev_ok hops hp hx hc1).cells hc2
    have hrun : (execOp a.eval o).run P w = .ok (.value (.pointer (some ⟨w.heap.size, 0, none⟩))) (w.alloc (.cells (a.eval p).cells t)) := by
      unfold execOp; rw [ho]
      refine run_value ?_
      simp only [Instr.box, newVar, newRow, Sem.run_bind, Sem.run_pure, run_newObj, Result.andThen_ok]
      rfl
    have hb : Below w.heap.size w (w.alloc (.cells (a.eval p).cells t)) := (Below.refl _ _).alloc (Nat.le_refl _) _
    have hh : (w.alloc (.cells (a.eval p).cells t)).heap[w.heap.size]? = some (.cells (a.eval p).cells t (0, 0)) := heap_alloc_new w _
    have hext : Ext B k w ⟨updI k.I w.heap.size 0, k.own ++ [.blk w.heap.size]⟩ (w.alloc (.cells (a.eval p).cells t)) :=
      Ext.fresh hst.base hb (fun b hb => updI_ne _ _ (by omega)) _ fun id o' ho => ⟨o', getElem?_snoc_old _ ho, OwnLe.refl _⟩
    obtain ⟨he, hs2⟩ := hst.new hb (by simp) 0 (.blk w.heap.size) (.cells cs) rfl (fun _ _ => rfl)
      (fun ds hds => by cases hds; exact ⟨t, _, rfl, by simpa using hh, hcells.mono hext⟩) (fun _ _ _ hrow => by cases hrow) (fun _ _ _ hrow => by cases hrow)
    exact OpWp.value hrun ⟨_, ⟨w.heap.size, by rw [← hst.len]; simp, rfl⟩, he, hs2⟩
  · cases h

/-- A call. -/
theorem cXs_ok : ∀ {ts : List TypeId} {ps : List Operand} {xs : List X}, cXs P ts ps = some xs → ∀ (i : Nat) (x : X), xs[i]? = some x → ∃ p t, ps[i]? = some p ∧ cX P t p = some x
  | _, [], xs, h => by simp [cXs] at h; subst h; simp
  | ts, p :: ps, xs, h => by
    unfold cXs at h
    split at h
    · rename_i x xs' h1 h2
      obtain rfl := Option.some.inj h
      intro i y hy
      cases i with
      | zero => simp at hy; subst hy; exact ⟨p, _, rfl, h1⟩
      | succ i => exact cXs_ok h2 i y (by simpa using hy)
    · cases h
theorem cXs_len : ∀ {ts : List TypeId} {ps : List Operand} {xs : List X}, cXs P ts ps = some xs → xs.length = ps.length
  | _, [], xs, h => by simp [cXs] at h; subst h; rfl
  | ts, p :: ps, xs, h => by
    unfold cXs at h
    split at h
    · rename_i x xs' h1 h2
      obtain rfl := Option.some.inj h
      simp [cXs_len h2]
    · cases h

/-- The data of operands. -/
def evs (fr : Fr) : List X → Option (List D)
  | [] => some []
  | x :: l => match (x.ev fr).bind AV.toD, evs fr l with
    | some d, some ds => some (d :: ds)
    | _, _ => none

theorem evs_get : ∀ {xs : List X} {ds : List D}, evs fr xs = some ds → ds.length = xs.length ∧ ∀ (i : Nat) (d : D), ds[i]? = some d → ∃ x c, xs[i]? = some x ∧ x.ev fr = some c ∧ c.toD = some d
  | [], ds, h => by simp [evs] at h; subst h; simp
  | x :: xs, ds, h => by
    unfold evs at h
    split at h
    · rename_i d ds' h1 h2
      obtain rfl := Option.some.inj h
      obtain ⟨k1, k2⟩ := evs_get h2
      refine ⟨by simp [k1], fun i y hy => ?_⟩
      cases i with
      | zero =>
        simp at hy; subst hy
        obtain ⟨c, hc1, hc2⟩ := Option.bind_eq_some_iff.1 h1
        exact ⟨x, c, rfl, hc1, hc2⟩
      | succ i => exact k2 i y (by simpa using hy)
    · cases h

theorem ok_call {f : FuncId} {ps : Array Operand} {ts : Array TypeId} {xs : List X} (ho : o.op = .call { callee := .value (.func f), args := ps, argTypes := ts }) (hx : cXs P ts.toList ps.toList = some xs)
 {ds : List D} (hd : evs fr xs = some ds) {r : D} (hf : AFn P f ds r) : AOp P o fr s (.d r) s := fun B k a w hops hst => by
  intro QQ
  obtain ⟨l1, l2⟩ := evs_get hd
  have l3 := cXs_len hx
  have hrun : (execOp a.eval o).run P w = .ok (.enter f (ps.map a.eval)) w := by
    unfold execOp; rw [ho]
    simp only [resolve, Act.eval, Deferred.ofValue, Sem.run_bind, Sem.run_pure, Result.andThen_ok, invoke, Array.append_empty, Array.empty_append]
    exact hf.enters _ w
  unfold Oper.wp
  rw [hrun]
  have hcall := hf.calls k.I w (ps.toList.map a.eval) (by simp [l1, l3]) fun i v d hv hdd => by
    obtain ⟨x, c, h1, h2, h3⟩ := l2 i d hdd
    obtain ⟨p, t, h4, h5⟩ := cXs_ok hx i x h1
    rw [List.getElem?_map, h4] at hv
    obtain rfl := Option.some.inj hv
    have hp : p ∈ o.op.operands := by
      rw [ho]
      have : p ∈ ps := by simpa using List.mem_of_getElem? h4
      simp [Op.operands, Call.operands, this]
    exact (ev_ok hops hp h5 h2).toD h3
  have harr : (ps.toList.map a.eval).toArray = ps.map a.eval := by apply Array.ext'; simp
  rw [harr] at hcall
  refine Calls.mono hcall ?_
  rintro e w' ⟨v, rfl, hv, hb⟩
  exact ⟨v, rfl, ⟨bigI k.I w.heap.size w', k.own⟩, hv, Ext.called hst.base hb, hst.called hb⟩

/-! ### Constants, structs -/

theorem zCells_ok {t : TypeId} {us : List Value} (h1 : ∀ u ∈ us, u.oneCell' = true) (k : Cfg) (w : World) : RAs k w us (zCells P t us) := by
  refine ⟨by simp [zCells], h1, fun i u d hu hd => ?_⟩
  unfold zCells at hd
  simp only [List.getElem?_map, List.getElem?_zipIdx, Nat.zero_add] at hd
  rw [hu] at hd
  simp at hd
  subst hd
  exact cL_ok ..

theorem fold_set : ∀ (vs : List Value) (j off : Nat) (cs : Array Value), off + j + vs.length ≤ cs.size → ((vs.zipIdx j).foldl (fun (cs : Array Value) (x : Value × Nat) => cs.setIfInBounds (off + x.2) x.1) cs).toList = cs.toList.take (off + j) ++ vs ++ cs.toList.drop (off + j + vs.length)
  | [], j, off, cs, h => by simp
  | v :: vs, j, off, cs, h => by
    simp only [List.length_cons] at h
    rw [List.zipIdx_cons, List.foldl_cons, fold_set vs (j + 1) off _ (by simp; omega)]
    have hlt : off + j < cs.toList.length := by simp; omega
    rw [Array.toList_setIfInBounds]
    refine List.ext_getElem? fun i => ?_
    simp only [List.append_assoc, List.getElem?_append, List.getElem?_take, List.getElem?_drop, List.getElem?_set, List.length_take, List.length_set, List.length_cons, List.getElem?_cons, List.length_append]
    repeat' split
    all_goals first
      | rfl
      | omega
      | (congr 1; omega)
      | (exfalso; omega)
      | (simp_all; done)
      | (rename_i h1 h2 h3; simp at *; omega)

theorem fill_ok {k : Cfg} {w : World} {a : Act} (hops : Ops k w a o fr) {place : Nat → Option (Nat × Nat)} {ty : Nat → TypeId} : ∀ {ps : List (Nat × Operand)} {qs : List (Nat × Nat × X)} {arr : Array Value} {cs cs' : List AV},
    cParts P place ty ps = some qs → (∀ x ∈ ps, x.2 ∈ o.op.operands) → RAs k w arr.toList cs → fillA fr cs qs = some cs' →
    ∃ arr', Instr.fill place arr (ps.map fun x => (x.1, a.eval x.2)) = some arr' ∧ RAs k w arr'.toList cs'
  | [], qs, arr, cs, cs', h1, _, h3, h4 => by
    simp [cParts] at h1; subst h1
    simp [fillA] at h4; subst h4
    exact ⟨arr, rfl, h3⟩
  | (i, p) :: ps, qs, arr, cs, cs', h1, h2, h3, h4 => by
    unfold cParts at h1
    split at h1
    · rename_i off size x l' e1 e2 e3
      obtain rfl := Option.some.inj h1
      unfold fillA at h4
      split at h4
      · rename_i vs hvs
        split at h4
        · rename_i hcc
          obtain ⟨c, hc1, hc2⟩ := Option.bind_eq_some_iff.1 hvs
          have hcells := (ev_ok hops (h2 (i, p) (by simp)) e2 hc1).cells hc2
          have hl1 : (a.eval p).cells.size = size := by have := hcells.1; simp at this; omega
          have hl2 : arr.size = cs.length := by have := h3.1; simpa using this
          have hset := fold_set (a.eval p).cells.toList 0 off arr (by simp [hl1]; omega)
          simp only [Nat.add_zero, Array.length_toList, hl1] at hset
          have hras : RAs k w ((((a.eval p).cells.toList.zipIdx 0).foldl (fun (cs : Array Value) (x : Value × Nat) => cs.setIfInBounds (off + x.2) x.1) arr)).toList (cs.take off ++ vs ++ cs.drop (off + size)) := by
            rw [hset]
            exact ((h3.take off).append hcells).append (h3.drop _)
          obtain ⟨arr', g1, g2⟩ := fill_ok hops e3 (fun x hx => h2 x (by simp [hx])) hras h4
          refine ⟨arr', ?_, g2⟩
          have hcond : ((decide ((a.eval p).cells.size ≠ size)) || decide (off + (a.eval p).cells.size > arr.size)) = false := by simp [hl1]; omega
          simp only [List.map_cons, Instr.fill, e1, hcond, Bool.false_eq_true, if_false]
          rw [← g1]
          congr 1
          rw [← Array.foldl_toList]
          simp
        · cases h4
      · cases h4
    · cases h1

theorem ok_bld {t : TypeId} {parts : Array (Nat × Operand)} {z : List AV} {qs : List (Nat × Nat × X)} (ho : o.op = .build t parts) (hc : compBuild P t parts.toList = some (.bld z qs)) (h : (CI.bld z qs).sem fr s = some (d, s')) : AOp P o fr s d s' := by
  simp only [CI.sem] at h
  obtain ⟨cs', hcs, hh⟩ := Option.map_eq_some_iff.1 h
  obtain ⟨rfl, rfl⟩ := Prod.mk.inj hh
  have hmem : ∀ x ∈ parts.toList, x.2 ∈ o.op.operands := fun x hx => by
    rw [ho]; simp only [Op.operands]; simp; exact ⟨x.1, by simpa using hx⟩
  refine AOp.pure fun B k a w hops hst => ?_
  have key : ∃ arr', P.built t (parts.toList.map fun x => (x.1, a.eval x.2)) = some arr' ∧ RAs k w arr'.toList cs' := by
    unfold compBuild at hc
    split at hc
    · rename_i it fs hit hu
      split at hc
      · rename_i z0 places hz hpl
        split at hc
        · rename_i hone
          obtain ⟨qs', hq, he⟩ := Option.map_eq_some_iff.1 hc
          cases he
          obtain ⟨arr', g1, g2⟩ := fill_ok (a := a) hops hq hmem (zCells_ok (P := P) (t := t) (fun u hu => Array.all_eq_true_iff_forall_mem.1 hone u (by simpa using hu)) k w) hcs
          exact ⟨arr', by unfold Program.built; simp only [hit, hu, hz, hpl]; exact g1, g2⟩
        · cases hc
      · cases hc
    · rename_i it n e hit hu
      split at hc
      · rename_i z0 ie hz hie
        split at hc
        · rename_i hone
          obtain ⟨qs', hq, he⟩ := Option.map_eq_some_iff.1 hc
          cases he
          obtain ⟨arr', g1, g2⟩ := fill_ok (a := a) hops hq hmem (zCells_ok (P := P) (t := t) (fun u hu => Array.all_eq_true_iff_forall_mem.1 hone u (by simpa using hu)) k w) hcs
          exact ⟨arr', by unfold Program.built; simp only [hit, hu, hz, hie]; exact g1, g2⟩
        · cases hc
      · cases hc
    · cases hc
  obtain ⟨arr', g1, g2⟩ := key
  refine ⟨.agg arr', ?_, arr'.toList, by simp, g2⟩
  unfold execOp; rw [ho]
  refine run_value (run_build w t _ arr' ?_)
  rw [← g1]; simp

theorem ok_alc {t : TypeId} {i : TypeInfo} {z : Value} {c : AV} (ho : o.op = .alloc t) (hi : P.info? t = some i) (hz : i.zero = some z) (hc : cA P t z = some c) (h : (CI.box (.c c)).sem fr s = some (d, s')) : AOp P o fr s d s' := by
  simp only [CI.sem, X.ev, Option.bind_some] at h
  split at h
  · rename_i cs hc2
    obtain ⟨rfl, rfl⟩ := Prod.mk.inj (Option.some.inj h)
    intro B k a w hops hst
    have hcells := (cA_ok hc k w).cells hc2
    have hrun : (execOp a.eval o).run P w = .ok (.value (.pointer (some ⟨w.heap.size, 0, none⟩))) (w.alloc (.cells z.cells t)) := by
      unfold execOp; rw [ho]
      refine run_value ?_
      simp only [Instr.alloc, zeroValue, typeInfo, newVar, newRow, Sem.run_bind, Sem.run_pure, run_newObj, Result.andThen_ok, run_program, hi, hz]
      rfl
    have hb : Below w.heap.size w (w.alloc (.cells z.cells t)) := (Below.refl _ _).alloc (Nat.le_refl _) _
    have hh : (w.alloc (.cells z.cells t)).heap[w.heap.size]? = some (.cells z.cells t (0, 0)) := heap_alloc_new w _
    have hext : Ext B k w ⟨updI k.I w.heap.size 0, k.own ++ [.blk w.heap.size]⟩ (w.alloc (.cells z.cells t)) :=
      Ext.fresh hst.base hb (fun b hb => updI_ne _ _ (by omega)) _ fun id o' ho => ⟨o', getElem?_snoc_old _ ho, OwnLe.refl _⟩
    obtain ⟨he, hs2⟩ := hst.new hb (by simp) 0 (.blk w.heap.size) (.cells cs) rfl (fun _ _ => rfl)
      (fun ds hds => by cases hds; exact ⟨t, _, rfl, by simpa using hh, hcells.mono hext⟩) (fun _ _ _ hrow => by cases hrow) (fun _ _ _ hrow => by cases hrow)
    exact OpWp.value hrun ⟨_, ⟨w.heap.size, by rw [← hst.len]; simp, rfl⟩, he, hs2⟩
  · cases h

theorem ok_cnv {src dst : TypeId} {k k' : IntKind} {p : Operand} {x : X} (ho : o.op = .convert src dst p) (h1 : P.underlying src = some (.int k')) (h2 : P.underlying dst = some (.int k)) (hx : cX P 0 p = some x) (h : (CI.cnv k x).sem fr s = some (d, s')) : AOp P o fr s d s' := by
  have hp : p ∈ o.op.operands := by rw [ho]; simp [Op.operands]
  simp only [CI.sem] at h
  split at h
  · rename_i kk n hc
    obtain ⟨rfl, rfl⟩ := Prod.mk.inj (Option.some.inj h)
    refine AOp.pure fun B kc a w hops hst => ⟨.int k (k.wrap n), ?_, RD.sc _⟩
    unfold execOp; rw [ho]
    refine run_value ?_
    simp only [convert, Sem.run_bind, run_underlying h1, run_underlying h2, Result.andThen_ok, sc_ok hops hp hx hc, Conv.intToInt, Sem.run_pure]
  · cases h

theorem ok_iap {t e : TypeId} {n : Nat} {j : TypeInfo} {p q : Operand} {x y : X} (ho : o.op = .indexAddr t p q) (hu : P.underlying t = some (.array n e)) (hj : P.info? e = some j) (hx : cX P 0 p = some x) (hy : cX P 0 q = some y)
    (h : (CI.iap n j.size x y).sem fr s = some (d, s')) : AOp P o fr s d s' := by
  have hp : p ∈ o.op.operands := by rw [ho]; simp [Op.operands]
  have hq : q ∈ o.op.operands := by rw [ho]; simp [Op.operands]
  have hrun : ∀ (a : Act) (w : World) (b off : Nat) (m : Int), a.eval p = .pointer (some ⟨b, off, none⟩) → a.eval q = .int .i64 m → 0 ≤ m → m < n → (execOp a.eval o).run P w = .ok (.value (.pointer (some ⟨b, off + m.toNat * j.size, none⟩))) w := fun a w b off m h1 h2 h3 h4 => by
    unfold execOp; rw [ho]
    refine run_value ?_
    have hcond : 0 ≤ m ∧ m < (n : Int) := ⟨h3, h4⟩
    simp only [Instr.indexAt, h1, h2, asIntOf, Sem.run_bind, Sem.run_pure, Result.andThen_ok, run_underlying hu, Instr.sureAddr, if_pos hcond, sizeOf, typeInfo, run_program, hj, Addr.add_mid]
  simp only [CI.sem] at h
  split at h
  · cases h
  · rename_i m hm
    split at h
    · rename_i hcc
      split at h
      · rename_i ds hc
        obtain ⟨rfl, rfl⟩ := Prod.mk.inj (Option.some.inj h)
        refine AOp.pure fun B k a w hops hst => ?_
        have hv : RD k.I w (a.eval p) (.ref ds) := ev_ok hops hp hx hc
        generalize hu' : a.eval p = u at hv
        cases hv with
        | ref b off us ds h1 h2 h3 h4 =>
          refine ⟨_, hrun a w b off m hu' (int_ok hops hq hy hm) hcc.1 hcc.2, ?_⟩
          have h5 : RDs k.I w (us.drop (m.toNat * j.size)) (ds.drop (m.toNat * j.size)) := RDs.drop ⟨h1, h2, h4⟩ _
          refine .ref _ _ _ _ h5.1 h5.2.1 (fun i u hu => ?_) h5.2.2
          rw [List.getElem?_drop] at hu
          rw [Nat.add_assoc]
          exact h3 _ u hu
      · rename_i id off hc
        obtain ⟨rfl, rfl⟩ := Prod.mk.inj (Option.some.inj h)
        refine AOp.pure fun B k a w hops hst => ?_
        obtain ⟨b, hb, hv⟩ : RL k w (a.eval p) (.ptr id off) := ev_ok hops hp hx hc
        exact ⟨_, hrun a w b off m hv (int_ok hops hq hy hm) hcc.1 hcc.2, b, hb, rfl⟩
      · rename_i id n' off hc
        obtain ⟨rfl, rfl⟩ := Prod.mk.inj (Option.some.inj h)
        refine AOp.pure fun B k a w hops hst => ?_
        obtain ⟨b, hv, hb⟩ : RL k w (a.eval p) (.vptr id n' off) := ev_ok hops hp hx hc
        exact ⟨_, hrun a w b off m hv (int_ok hops hq hy hm) hcc.1 hcc.2, b, rfl, hb⟩
      · cases h
    · cases h

theorem ok_nck {p : Operand} {x : X} (ho : o.op = .nilCheck p) (hx : cX P 0 p = some x) (h : (CI.nck x).sem fr s = some (d, s')) : AOp P o fr s d s' := by
  have hp : p ∈ o.op.operands := by rw [ho]; simp [Op.operands]
  have hrun : ∀ (a : Act) (w : World) (ad : Addr), a.eval p = .pointer (some ad) → (execOp a.eval o).run P w = .ok (.value (.pointer (some ad))) w := fun a w ad he => by
    unfold execOp; rw [ho]
    dsimp only
    rw [he]
    rfl
  simp only [CI.sem] at h
  split at h
  · rename_i ds hc
    obtain ⟨rfl, rfl⟩ := Prod.mk.inj (Option.some.inj h)
    refine AOp.pure fun B k a w hops hst => ?_
    have hv : RD k.I w (a.eval p) (.ref ds) := ev_ok hops hp hx hc
    have hv' := hv
    generalize hu' : a.eval p = u at hv
    cases hv with
    | ref b off us ds h1 h2 h3 h4 => exact ⟨_, hrun a w _ hu', by rw [← hu']; exact hv'⟩
  · rename_i id off hc
    obtain ⟨rfl, rfl⟩ := Prod.mk.inj (Option.some.inj h)
    refine AOp.pure fun B k a w hops hst => ?_
    obtain ⟨b, hb, hv⟩ : RL k w (a.eval p) (.ptr id off) := ev_ok hops hp hx hc
    exact ⟨_, hrun a w _ hv, b, hb, rfl⟩
  · rename_i id n' off hc
    obtain ⟨rfl, rfl⟩ := Prod.mk.inj (Option.some.inj h)
    refine AOp.pure fun B k a w hops hst => ?_
    obtain ⟨b, hv, hb⟩ : RL k w (a.eval p) (.vptr id n' off) := ev_ok hops hp hx hc
    exact ⟨_, hrun a w _ hv, b, rfl, hb⟩
  · cases h
end
end Go.Ab

namespace Go.Proofs.Lg
open Go Go.RowKit
variable {P : Program}

theorem zeroCells_zeros (z : Array Value) (n : Nat) : Builtin.zeroCells z n = Go.Ab.zeros z (n * z.size) := by
  unfold Builtin.zeroCells Go.Ab.zeros
  first | rfl | simp

theorem run_clear_cells {n : Nat} (w : World) (t e ty : TypeId) (z : Value) (ht : P.underlying t = some (.slice e)) (hv : ∀ w, (zeroValue e).run P w = .ok z w) (h1 : ∀ u ∈ (Builtin.zeroCells z.cells n).toList, u.oneCell' = true) (b o c : Nat) (hn : 0 < n)
    (hc : ∀ j, j < (Builtin.zeroCells z.cells n).toList.length → (w.cell? ⟨b, o + j, none⟩).isSome = true) (hf : ∀ j, j < (Builtin.zeroCells z.cells n).toList.length → w.frozen? ⟨b, o + j, none⟩ = false) :
    (Builtin.clear_ #[t] ty #[.slice (some ⟨b, o, none⟩) n c]).run P w = .ok (.tuple #[]) (w.setCells b o (Builtin.zeroCells z.cells n).toList) := by
  have hst := run_storeCells_cells (P := P) b o (Builtin.zeroCells z.cells n).toList 0 w (by simpa using hc) (by simpa using hf) h1
  simp only [Nat.add_zero] at hst
  obtain ⟨m, rfl⟩ : ∃ m, n = m + 1 := ⟨n - 1, by omega⟩
  simp [Builtin.clear_, run_underlying ht, hv, hst]
end Go.Proofs.Lg

namespace Go.Ab
open Go Go.RowKit Go.Proofs.Lg

section
variable {P : Program} {o : Oper} {fr : Fr} {s s' : List AObj} {d : AV}

/-- An append, in place or into a new block. -/
theorem run_app2 (w : World) (base : Nat) (t ty e : TypeId) (i : TypeInfo) (z : Value) (ht : P.underlying t = some (.slice e)) (hi : P.info? e = some i) (hz : i.zero = some z) (hzs : z.cells.size = i.size)
    (v : Value) (n : Nat) (xs : List Value) (hown : w.ownsRow base e i.size v n xs) (x : Value) (m : Nat) (news : List Value) (hx : SrcAt w x m i.size news) (h1 : ∀ u ∈ news, u.oneCell' = true)
    (h63 : n + m ≤ 9223372036854775807) (hbytes : (n + m) * i.bytes ≤ 140737488355328) (hbase : base ≤ w.heap.size) :
    ∃ v' w', (Builtin.append_ #[t, t] ty #[v, x]).run P w = .ok v' w' ∧ ((m = 0 ∧ v' = v ∧ w' = w) ∨
      (0 < m ∧ w'.ownsRow base e i.size v' (n + m) (xs ++ news) ∧ Below base w w' ∧ ((∃ g, v'.ownBlock = some g ∧ v.ownBlock = some g ∧ w.grownBy w' (some g)) ∨ (v'.ownBlock = some w.heap.size ∧ w.heap.size < w'.heap.size ∧ w.grownBy w' none)))) := by
  obtain ⟨a0, c0, rfl⟩ := ownsRow_form hown
  have hcap := ownsRow_cap hown
  by_cases hm : m = 0
  · subst hm
    refine ⟨_, w, ?_, .inl ⟨rfl, rfl, rfl⟩⟩
    obtain ⟨hl, ⟨c, rfl, _⟩ | ⟨ad, c, rfl, hc⟩⟩ := hx
    · cases a0 with
      | none => simp [Builtin.append_, run_underlying ht, sizeOf, typeInfo, hi, Builtin.lenOf, Builtin.firstCells, hcap]
      | some a0 => simp [Builtin.append_, run_underlying ht, sizeOf, typeInfo, hi, Builtin.lenOf, Builtin.firstCells, hcap, storeCells]
    · cases a0 with
      | none => simp [Builtin.append_, run_underlying ht, sizeOf, typeInfo, hi, Builtin.lenOf, Builtin.firstCells, hcap, loadCells, loadCellsFrom]
      | some a0 => simp [Builtin.append_, run_underlying ht, sizeOf, typeInfo, hi, Builtin.lenOf, Builtin.firstCells, hcap, storeCells, loadCells, loadCellsFrom]
  · obtain ⟨hl, ⟨c, _, h0⟩ | ⟨ad, c, rfl, hc⟩⟩ := hx
    · exact absurd h0 hm
    have hlen : (xs ++ news).length = (n + m) * i.size := by rw [List.length_append, hown.1, hl, Nat.add_mul]
    have grown : ∀ (old : Nat), old < n + m →
        (w.drew.alloc (.cells (xs.toArray ++ news.toArray ++ Builtin.zeroCells z.cells (grownCap w (n + m) old e - (n + m))) e)).ownsRow base e i.size
          (.slice (some ⟨w.heap.size, 0, none⟩) (n + m) (grownCap w (n + m) old e)) (n + m) (xs ++ news) ∧
        w.grownBy (w.drew.alloc (.cells (xs.toArray ++ news.toArray ++ Builtin.zeroCells z.cells (grownCap w (n + m) old e - (n + m))) e)) none := by
      intro old ho
      have hge := grownCap_ge w (n + m) old e
      have hcm : grownCap w (n + m) old e ≤ maxLen := grownCap_le_maxLen w (n + m) old e (by unfold maxLen; exact h63)
      refine ⟨⟨hlen, .inr ⟨w.heap.size, _, _, rfl, hbase, heap_alloc_new w.drew _, hge, hcm, ?_, ?_⟩⟩, ⟨rfl, rfl, rfl, by simp, fun k hk _ => Below.heap_alloc w.drew _ k (by simpa using hk)⟩⟩
      · simp only [Array.size_append, List.size_toArray, size_zeroCells, hzs, hown.1, hl, ← Nat.add_mul]
        congr 1
        omega
      · simp only [Array.toList_append, List.append_assoc]
        rw [← List.append_assoc, ← hlen]
        exact List.take_left
    rcases hown.2 with ⟨hv, rfl⟩ | ⟨g, cap, cur, hv, hbg, hg, hnc, hcm, hcs, htake⟩
    · cases hv
      have hx : xs = [] := List.eq_nil_of_length_eq_zero (by simpa using hown.1)
      subst hx
      have hr := run_append_nil (P := P) w t ty e i z ht hi hz ad m c news hl hc (by omega) (by omega) (by have hb := hbytes; simp only [Nat.zero_add] at hb; omega)
      have hgr := grown 0 (by omega)
      simp only [Nat.zero_add, List.nil_append, Array.empty_append] at hgr ⊢
      exact ⟨_, _, hr, .inr ⟨by omega, hgr.1, (Below.refl _ _).grown hgr.2 hbase (by simp), .inr ⟨rfl, by simp, hgr.2⟩⟩⟩
    · cases hv
      by_cases hroom : n + m ≤ c0
      · have hfit : n * i.size + news.length ≤ cur.size := by rw [hl, hcs, ← Nat.add_mul]; exact Nat.mul_le_mul_right _ hroom
        have hr := run_append_room (P := P) w t ty e i ht hi g n c0 cur hg ad m c news hl hc h1 hroom hfit
        have hgb : w.grownBy (w.setRow g (cur.toList.take (n * i.size) ++ news ++ cur.toList.drop (n * i.size + news.length)).toArray) (some g) := ⟨rfl, rfl, rfl, by simp, fun k _ hk => setRow_other w g k _ (fun e => hk (by simp [e]))⟩
        refine ⟨_, _, hr, .inr ⟨by omega, ⟨hlen, .inr ⟨g, c0, _, rfl, hbg, setRow_heap w g cur _ e _ hg, hroom, hcm, ?_, ?_⟩⟩, (Below.refl _ _).grown hgb hbase (by simp; exact hbg), .inl ⟨g, rfl, rfl, hgb⟩⟩⟩
        · simp only [List.size_toArray, List.length_append, List.length_take, List.length_drop, Array.length_toList]
          omega
        · rw [htake, ← hlen]
          exact List.take_left
      · have holds : ∀ j u, xs[j]? = some u → w.cell? ((⟨g, 0, none⟩ : Addr).add j) = some u := hown.cells (g := g) rfl
        have hr := run_append_grow (P := P) w t ty e i z ht hi hz ⟨g, 0, none⟩ n c0 xs hown.1 holds ad m c news hl hc (by omega) (by omega) (growslice_fits (by omega) hbytes)
        have hgr := grown c0 (by omega)
        exact ⟨_, _, hr, .inr ⟨by omega, hgr.1, (Below.refl _ _).grown hgr.2 hbase (by simp), .inr ⟨rfl, by simp, hgr.2⟩⟩⟩

/-- An owned row's cells are what its data say. -/
theorem row_cells {I : Nat → Nat} {w : World} {B e sz : Nat} {v : Value} {rows : List (List D)} {xs : List Value} (h : RD I w v (.sl sz rows)) (ho : w.ownsRow B e sz v rows.length xs) : RDs I w xs rows.flatten := by
  obtain ⟨a, c, us, rfl, h2, h3, h4, h5, h6⟩ := h.sl_inv
  have hfl := flatten_len rows h2
  have : xs = us := by
    have hl1 : us.length = rows.length * sz := by rw [h5.1, hfl]
    have hl2 : xs.length = rows.length * sz := ho.1
    refine List.ext_getElem? fun i => ?_
    by_cases hi : i < rows.length * sz
    · have hu : us[i]? = some us[i] := List.getElem?_eq_getElem (by omega)
      rw [hu]
      rcases ho.2 with ⟨hv, hn⟩ | ⟨g, cap, cur, hv, hbg, hg, hnc, hcm, hcs, htake⟩
      · rw [hn] at hi; simp at hi
      · cases hv
        obtain ⟨b, off, hb, hc⟩ := h6 (by intro hr; rw [hr] at hi; simp at hi)
        cases hb
        have := (hc i _ hu).2
        rw [Nat.zero_add, cell_of_row w g i cur e (0, 0) hg] at this
        have h9 : xs[i]? = (List.take (rows.length * sz) cur.toList)[i]? := by rw [htake]
        rw [h9, List.getElem?_take, if_pos hi]
        simpa using this
    · rw [List.getElem?_eq_none (by omega), List.getElem?_eq_none (by omega)]
  rw [this]; exact h5

/-- An owned row as data. -/
theorem row_RD {I : Nat → Nat} {w : World} {B e sz n : Nat} {v : Value} {rows : List (List D)} {xs : List Value} (ho : w.ownsRow B e sz v n xs) (hx : RDs I w xs rows.flatten) (hn : rows.length = n) (hr : ∀ r ∈ rows, r.length = sz)
    (hI : ∀ g, v.ownBlock = some g → n * sz ≤ I g) : RD I w v (.sl sz rows) := by
  rcases ho.2 with ⟨hv, h0⟩ | ⟨g, cap, cur, hv, hbg, hg, hnc, hcm, hcs, htake⟩
  · subst hv
    obtain rfl : rows = [] := List.eq_nil_of_length_eq_zero (by omega)
    exact RD.sl_mk (us := []) (by simp) (by simp) (by omega) (by omega) ⟨by simp, by simp, by simp⟩ (by simp)
  · subst hv
    refine RD.sl_mk hn hr hnc (by unfold maxLen at hcm; omega) hx fun _ => ⟨g, 0, rfl, fun i u hu => ?_⟩
    have hi := (List.getElem?_eq_some_iff.1 hu).1
    have hl := ho.1
    refine ⟨by have := hI g rfl; omega, ?_⟩
    rw [Nat.zero_add, cell_of_row w g i cur e (0, 0) hg]
    rw [← htake, List.getElem?_take] at hu
    split at hu
    · simpa using hu
    · cases hu

theorem rows_sz {I : Nat → Nat} {w : World} {v : Value} {sz : Nat} {rows : List (List D)} (h : RD I w v (.sl sz rows)) : ∀ r ∈ rows, r.length = sz := by
  obtain ⟨a, c, us, _, h2, _⟩ := h.sl_inv; exact h2

theorem RD.src {I : Nat → Nat} {w : World} {v : Value} {sz : Nat} {rows : List (List D)} (h : RD I w v (.sl sz rows)) : ∃ us, SrcAt w v rows.length sz us ∧ RDs I w us rows.flatten := by
  obtain ⟨a, c, us, rfl, h2, h3, h4, h5, h6⟩ := h.sl_inv
  refine ⟨us, ⟨by rw [h5.1, flatten_len rows h2], ?_⟩, h5⟩
  cases a with
  | none =>
    left
    have : rows = [] := by
      cases rows with
      | nil => rfl
      | cons r rows => obtain ⟨b, off, hb, _⟩ := h6 (by simp); cases hb
    subst this
    exact ⟨c, rfl, rfl⟩
  | some ad =>
    right
    refine ⟨ad, c, rfl, fun j u hu => ?_⟩
    obtain ⟨b, off, hb, hc⟩ := h6 (by intro e; subst e; have := h5.1; simp at this; subst this; simp at hu)
    obtain rfl := Option.some.inj hb
    rw [Addr.add_mid]
    exact (hc j u hu).2

/-- A row has grown. -/
theorem St.grow {B : Nat} {k : Cfg} {w w' : World} (h : St B k s w) {id n m x0 x : Nat} {v v' : Value} {g' : Nat} {ob : AObj} (hidlt2 : id < s.length) (hI : ∀ g, v.ownBlock = some g → k.I g = x0) (hk : k.own[id]? = some (.row v n)) (hm : 0 < m) (hx : x0 ≤ x)
    (hb : Below B w w') (hg : v'.ownBlock = some g') (hcase : v.ownBlock = some g' ∨ (g' = w.heap.size ∧ w.heap.size < w'.heap.size)) (hblk : ∀ b, b < w.heap.size → b ≠ g' → w'.heap[b]? = w.heap[b]?)
    (hpre : v.ownBlock = some g' → ∀ q u, q < x0 → w.cell? ⟨g', q, none⟩ = some u → w'.cell? ⟨g', q, none⟩ = some u)
    (hc : ∀ ds, ob ≠ .cells ds) (hr : ∀ e' sz' n', ob = .row e' sz' n' → n' = n + m ∧ x = n' * sz' ∧ ∃ xs', w'.ownsRow B e' sz' v' (n + m) xs')
    (hv : ∀ e' sz' ds, ob = .vec e' sz' ds → x = 0 ∧ ds.length = (n + m) * sz' ∧ ∃ xs', w'.ownsRow B e' sz' v' (n + m) xs' ∧ ∀ k' , Ext B k w k' w' → RAs k' w' xs' ds) :
    Ext B k w ⟨updI k.I g' x, k.own.set id (.row v' (n + m))⟩ w' ∧ St B ⟨updI k.I g' x, k.own.set id (.row v' (n + m))⟩ (s.set id ob) w' := by
  have hidlt := (List.getElem?_eq_some_iff.1 hk).1
  have hBg : B ≤ g' := by
    rcases hcase with hc | ⟨hc, _⟩
    · exact (h.lies id _ g' hk hc).1
    · have := h.base; omega
  have hg'lt : g' < w'.heap.size := by
    rcases hcase with hc | ⟨hc, hlt⟩
    · exact Nat.lt_of_lt_of_le (h.lies id _ g' hk hc).2 hb.size
    · omega
  have hother : ∀ (j : Nat) (o' : Own) (b : Nat), j ≠ id → k.own[j]? = some o' → o'.block = some b → b ≠ g' := fun j o' b hj ho' hbb e => by
    subst e
    rcases hcase with hc | ⟨hc, _⟩
    · exact h.apart j id o' _ b hj ho' hk hbb hc
    · have := (h.lies j o' b ho' hbb).2; omega
  have he : Ext B k w ⟨updI k.I g' x, k.own.set id (.row v' (n + m))⟩ w' := by
    refine ⟨hb, fun b q u hq hc => ?_, fun b hbB => updI_ne _ _ (by omega), fun j o' hj => ?_⟩
    · show q < updI k.I g' _ b ∧ _
      by_cases hbg : b = g'
      · subst hbg
        rw [updI_self]
        rcases hcase with hc' | ⟨hc', _⟩
        · have hIg := hI b hc'
          rw [hIg] at hq
          exact ⟨by omega, hpre hc' q u hq hc⟩
        · have := cell_none_lt hc; omega
      · rw [updI_ne _ _ hbg]
        exact ⟨hq, (World.cell?_of_block (w := w) (hblk b (cell_none_lt hc) hbg)).trans hc⟩
    · by_cases hj' : j = id
      · subst hj'
        rw [hk] at hj; cases hj
        exact ⟨.row v' (n + m), by simp [hidlt], _, _, rfl, .inr (by omega)⟩
      · exact ⟨o', by rw [List.getElem?_set_ne (Ne.symm hj')]; exact hj, OwnLe.refl _⟩
  refine ⟨he, Nat.le_trans h.base hb.size, by simp [h.len], fun j ds hs => ?_, fun j e' sz' n' hs => ?_, fun j e' sz' ds hs => ?_, fun j o' b ho' hbb => ?_, fun j b ho' => ?_, fun i j o1 o2 b hij ho1 ho2 hb1 hb2 => ?_⟩
  · have hj : j ≠ id := by rintro rfl; simp [hidlt2] at hs; exact hc _ hs
    rw [List.getElem?_set_ne (Ne.symm hj)] at hs
    obtain ⟨b, t, us, h1, h2, h3⟩ := h.cells j ds hs
    exact ⟨b, t, us, by rw [List.getElem?_set_ne (Ne.symm hj)]; exact h1, by rw [hblk b (h.lies j _ b h1 rfl).2 (hother j _ b hj h1 rfl)]; exact h2, h3.mono he⟩
  · by_cases hj : j = id
    · subst hj
      simp [hidlt2] at hs
      obtain ⟨rfl, hx2, xs', ho⟩ := hr _ _ _ hs
      refine ⟨v', xs', by simp [hidlt], ho, fun g hgg => ?_⟩
      rw [hg] at hgg; cases hgg
      rw [← hx2]; exact updI_self ..
    · rw [List.getElem?_set_ne (Ne.symm hj)] at hs
      obtain ⟨u, ys, h1, h2, h3⟩ := h.row j e' sz' n' hs
      refine ⟨u, ys, by rw [List.getElem?_set_ne (Ne.symm hj)]; exact h1, ⟨h2.1, ?_⟩, fun g hgg => ?_⟩
      · rcases h2.2 with e1 | ⟨g, cap, cur, e1, e2, e3, e4⟩
        · exact .inl e1
        · exact .inr ⟨g, cap, cur, e1, e2, by rw [hblk g (Array.getElem?_eq_some_iff.1 e3).1 (hother j _ g hj h1 (by rw [e1]; rfl))]; exact e3, e4⟩
      · show updI k.I _ _ g = _
        rw [updI_ne _ _ (hother j _ g hj h1 hgg)]; exact h3 g hgg
  · by_cases hj : j = id
    · subst hj
      simp [hidlt2] at hs
      obtain ⟨hx2, hlen, xs', ho, hras⟩ := hv _ _ _ hs
      refine ⟨v', n + m, xs', by simp [hidlt], ho, fun g hgg => ?_, hlen, hras _ he⟩
      rw [hg] at hgg; cases hgg
      rw [← hx2]; exact updI_self ..
    · rw [List.getElem?_set_ne (Ne.symm hj)] at hs
      obtain ⟨u, n2, ys, h1, h2, h3, h4, h5⟩ := h.vec j e' sz' ds hs
      refine ⟨u, n2, ys, by rw [List.getElem?_set_ne (Ne.symm hj)]; exact h1, ⟨h2.1, ?_⟩, fun g hgg => ?_, h4, h5.mono he⟩
      · rcases h2.2 with e1 | ⟨g, cap, cur, e1, e2, e3, e4⟩
        · exact .inl e1
        · exact .inr ⟨g, cap, cur, e1, e2, by rw [hblk g (Array.getElem?_eq_some_iff.1 e3).1 (hother j _ g hj h1 (by rw [e1]; rfl))]; exact e3, e4⟩
      · show updI k.I _ _ g = _
        rw [updI_ne _ _ (hother j _ g hj h1 hgg)]; exact h3 g hgg
  · by_cases hj : j = id
    · subst hj
      simp [hidlt] at ho'
      subst ho'
      have hbb' : v'.ownBlock = some b := hbb
      rw [hg] at hbb'; cases hbb'
      exact ⟨hBg, hg'lt⟩
    · have ho2 : k.own[j]? = some o' := by rw [← ho']; exact (List.getElem?_set_ne (Ne.symm hj)).symm
      obtain ⟨l1, l2⟩ := h.lies j o' b ho2 hbb
      exact ⟨l1, Nat.lt_of_lt_of_le l2 hb.size⟩
  · have hj : j ≠ id := by rintro rfl; simp [hidlt] at ho'
    have ho2 : k.own[j]? = some (.blk b) := by rw [← ho']; exact (List.getElem?_set_ne (Ne.symm hj)).symm
    show updI k.I _ _ b = _
    rw [updI_ne _ _ (hother j _ b hj ho2 rfl)]; exact h.blkI j b ho2
  · have key : ∀ (x : Nat) (ox : Own) (bx : Nat), (k.own.set id (.row v' (n + m)))[x]? = some ox → ox.block = some bx → (x = id ∧ bx = g') ∨ (x ≠ id ∧ k.own[x]? = some ox ∧ bx ≠ g') := fun x ox bx hx hbx => by
      by_cases hxi : x = id
      · subst hxi
        simp [hidlt] at hx
        subst hx
        have : v'.ownBlock = some bx := hbx
        rw [hg] at this; cases this
        exact .inl ⟨rfl, rfl⟩
      · rw [List.getElem?_set_ne (Ne.symm hxi)] at hx
        exact .inr ⟨hxi, hx, hother x ox bx hxi hx hbx⟩
    rcases key i o1 b ho1 hb1 with ⟨rfl, rfl⟩ | ⟨i1, i2, i3⟩ <;> rcases key j o2 b ho2 hb2 with ⟨rfl, j1⟩ | ⟨j1, j2, j3⟩
    · exact hij rfl
    · exact j3 rfl
    · exact i3 j1
    · exact h.apart i j o1 o2 b hij i2 j2 hb1 hb2

/-- What is appended. -/
theorem srcA_ok {B : Nat} {k : Cfg} {a : Act} {w : World} (hst : St B k s w) (hops : Ops k w a o fr) {q : Operand} (hq : q ∈ o.op.operands) {t : TypeId} {y : X} (hy : cX P t q = some y) {sz : Nat} {m : Nat × List AV} (h : srcA s sz (y.ev fr) = some m) :
    ∃ us, SrcAt w (a.eval q) m.1 sz us ∧ RAs k w us m.2 := by
  unfold srcA at h
  split at h
  · rename_i id n sz' hc
    split at h
    · rename_i e sz2 ds hid
      split at h
      · rename_i hcc
        obtain ⟨rfl, rfl, c0, c1⟩ := hcc
        obtain rfl := Option.some.inj h
        obtain ⟨⟨ad, cc, hv⟩, u, n', hku, hle, heq⟩ : RL k w (a.eval q) (.vec id n sz2) := ev_ok hops hq hy hc
        obtain ⟨v, n2, xs, g1, hown, hI, g4, hxs⟩ := hst.vec id e sz2 ds hid
        rw [hku] at g1; cases g1
        have hnn : n = n' := by
          rw [c1] at g4
          exact Nat.eq_of_mul_eq_mul_right c0 g4
        subst hnn
        have hveq := heq rfl
        refine ⟨xs, ⟨hown.1, ?_⟩, hxs⟩
        rw [hveq]
        rcases hown.2 with ⟨h1, h2⟩ | ⟨g, cap, cur, h1, _⟩
        · exact .inl ⟨0, h1, h2⟩
        · exact .inr ⟨_, cap, h1, fun i x hx => hown.cells (by rw [h1]; rfl) i x hx⟩
      · cases h
    · cases h
  · split at h
    · rename_i rows hr
      obtain rfl := Option.some.inj h
      obtain ⟨us, hsrc, hus⟩ := (sl_ok hops hq hy hr).src
      exact ⟨us, hsrc, RDs.toA hus⟩
    · cases h

theorem ok_app {mu : Bool} {t e : TypeId} {j : TypeInfo} {z : Value} {p q : Operand} {x y : X} (ho : o.op = .call { callee := .builtin .append, args := #[p, q], argTypes := #[t, t] }) (hu : P.underlying t = some (.slice e)) (hj : P.info? e = some j) (hz : j.zero = some z) (hzs : z.cells.size = j.size)
    (hx : cX P t p = some x) (hy : cX P t q = some y) (h : (CI.app mu e j.size j.bytes x y).sem fr s = some (d, s')) : AOp P o fr s d s' := by
  have hp : p ∈ o.op.operands := by rw [ho]; simp [Op.operands, Call.operands]
  have hq : q ∈ o.op.operands := by rw [ho]; simp [Op.operands, Call.operands]
  have hrun : ∀ (a : Act) (w : World) (v : Value) (w' : World), (Builtin.append_ #[t, t] o.type #[a.eval p, a.eval q]).run P w = .ok v w' → (execOp a.eval o).run P w = .ok (.value v) w' := fun a w v w' hr => by
    unfold execOp; rw [ho]
    simp only [resolve, invoke, builtin, Sem.run_bind, Sem.run_pure, Result.andThen_ok, List.map_toArray, List.map_cons, List.map_nil, hr]
  simp only [CI.sem] at h
  split at h
  · rename_i id n sz' hc
    split at h
    · rename_i us0 e' sz2 ds hsrc0 hid
      split at h
      · rename_i hcc
        obtain ⟨rfl, rfl, rfl, c0, c1, c2, c3, c4⟩ := hcc
        obtain ⟨rfl, rfl⟩ := Prod.mk.inj (Option.some.inj h)
        intro B k a w hops hst
        obtain ⟨⟨ad, cc, hv⟩, u, n', hku, hle, heq⟩ : RL k w (a.eval p) (.vec id n j.size) := ev_ok hops hp hx hc
        obtain ⟨v, n2, xs, g1, hown, hI, g4, hxs⟩ := hst.vec id e' j.size ds hid
        rw [hku] at g1; cases g1
        have hnn : n = n' := by
          rw [c1] at g4
          exact Nat.eq_of_mul_eq_mul_right c0 g4
        subst hnn
        have hveq := heq rfl
        obtain ⟨us, hsrc, hus⟩ := srcA_ok hst hops hq hy hsrc0
        obtain ⟨v', w', hr, hcase⟩ := run_app2 (P := P) w B t o.type e' j z hu hj hz hzs _ n xs hown _ us0.1 us hsrc hus.2.1 c4 c3 hst.base
        rcases hcase with ⟨h0, rfl, rfl⟩ | ⟨hm, hown', hb, hcase⟩
        · have hnil : us0.2 = [] := List.eq_nil_of_length_eq_zero (by rw [c2, h0]; simp)
          rw [h0, hnil]
          refine OpWp.value (hrun a _ _ _ (by rw [hveq]; exact hr)) ⟨k, ⟨⟨ad, cc, by rw [← hveq]; simpa using hv⟩, v', n, hku, by simp, fun _ => rfl⟩, Ext.refl B k _, ?_⟩
          have : s.set id (.vec e' j.size (ds ++ [])) = s := by
            obtain ⟨h10, h11⟩ := List.getElem?_eq_some_iff.1 hid
            rw [List.append_nil, ← h11]; exact List.set_getElem_self h10
          rw [this]; exact hst
        · have hrest : ∃ g', v'.ownBlock = some g' ∧ (u.ownBlock = some g' ∨ (g' = w.heap.size ∧ w.heap.size < w'.heap.size)) ∧ (∀ b, b < w.heap.size → b ≠ g' → w'.heap[b]? = w.heap[b]?) := by
            rcases hcase with ⟨g, hg1, hg2, hgb⟩ | ⟨hg, hlt, hgb⟩
            · exact ⟨g, hg1, .inl hg2, fun b hb hne => hgb.block b hb (by simpa using hne)⟩
            · exact ⟨w.heap.size, hg, .inr ⟨rfl, hlt⟩, fun b hb _ => hgb.block b hb (by simp)⟩
          obtain ⟨g', hg', hcase', hblk⟩ := hrest
          obtain ⟨he, hs2⟩ := hst.grow (x0 := 0) (x := 0) (ob := .vec e' j.size (ds ++ us0.2)) (List.getElem?_eq_some_iff.1 hid).1 hI hku hm (Nat.le_refl _) hb hg' hcase' hblk (fun _ q u hq _ => by omega) (fun _ h => by cases h) (fun _ _ _ h => by cases h)
            (fun _ _ _ h => by cases h; exact ⟨rfl, by rw [List.length_append, c1, c2, Nat.add_mul], _, hown', fun k' he => (hxs.mono he).append (hus.mono he)⟩)
          have hidlt := (List.getElem?_eq_some_iff.1 hku).1
          exact OpWp.value (hrun a _ _ _ (by rw [hveq]; exact hr)) ⟨_, ⟨ownsRow_form hown', v', n + us0.1, by simp [hidlt], Nat.le_refl _, fun _ => rfl⟩, he, hs2⟩
      · cases h
    · cases h
  split at h
  · rename_i news hn
    split at h
    · rename_i sz0 hc
      split at h
      · cases h
      intro B k a w hops hst
      have hv : a.eval p = .slice none 0 0 := ev_ok hops hp hx hc
      obtain ⟨us, hsrc, hus⟩ := (sl_ok hops hq hy hn).src
      have hrows := rows_sz (sl_ok hops hq hy hn)
      split at h
      · rename_i h0
        obtain ⟨rfl, rfl⟩ := Prod.mk.inj (Option.some.inj h)
        subst h0
        obtain ⟨v', w', hr, hcase⟩ := run_app2 (P := P) w B t o.type e j z hu hj hz hzs _ 0 [] (World.ownsRow_nil w B e j.size) _ 0 us hsrc hus.2.1 (by omega) (by omega) hst.base
        rcases hcase with ⟨_, rfl, rfl⟩ | ⟨hm, _⟩
        · exact OpWp.value (hrun a _ _ _ (by rw [hv]; exact hr)) ⟨k, rfl, Ext.refl B k _, hst⟩
        · omega
      · rename_i h0
        have hm : 0 < news.length := by
          rcases Nat.eq_zero_or_pos news.length with e | e
          · exact absurd (List.eq_nil_of_length_eq_zero e) h0
          · exact e
        split at h
        · rename_i hc2
          obtain ⟨rfl, rfl⟩ := Prod.mk.inj (Option.some.inj h)
          obtain ⟨v', w', hr, hcase⟩ := run_app2 (P := P) w B t o.type e j z hu hj hz hzs _ 0 [] (World.ownsRow_nil w B e j.size) _ news.length us hsrc hus.2.1 (by omega) (by simpa using hc2.1) hst.base
          rcases hcase with ⟨h1, _⟩ | ⟨_, hown, hb, ⟨g, _, hg, _⟩ | ⟨hg, hlt, hgb⟩⟩
          · omega
          · cases hg
          · rw [Nat.zero_add, List.nil_append] at hown
            have hbw : Below w.heap.size w w' := ⟨hgb.os, hgb.tape, hgb.output, hgb.size, fun k hk => hgb.block k hk (by simp)⟩
            obtain ⟨he, hs2⟩ := hst.new hbw hlt (news.length * j.size) (.row v' news.length) (.row e j.size news.length) hg (fun b hb => by cases hb) (fun ds hds => by cases hds)
              (fun e' sz' n' hrow => by cases hrow; exact ⟨v', us, rfl, hown, rfl⟩) (fun _ _ _ hv => by cases hv)
            refine OpWp.value (hrun a _ _ _ (by rw [hv]; exact hr)) ⟨_, ⟨?_, v', news.length, by rw [← hst.len]; simp, Nat.le_refl _, fun _ => rfl⟩, he, hs2⟩
            refine row_RD hown (hus.mono he.keep) rfl hrows fun g hgg => ?_
            rw [hg] at hgg; cases hgg
            exact Nat.le_of_eq (updI_self ..).symm
        · cases h
    · rename_i id sz' rows hc
      split at h
      · rename_i e' sz2 n hid
        split at h
        · rename_i hcc
          obtain ⟨rfl, rfl, rfl, rfl, hby, h63⟩ := hcc
          obtain ⟨rfl, rfl⟩ := Prod.mk.inj (Option.some.inj h)
          intro B k a w hops hst
          obtain ⟨hv, u, n', hku, hle, heq⟩ : RL k w (a.eval p) (.tsl id j.size rows) := ev_ok hops hp hx hc
          obtain ⟨v, xs, hkv, hown, hI⟩ := hst.row id e' j.size rows.length hid
          rw [hku] at hkv; cases hkv
          have hveq := heq rfl
          rw [hveq] at hv
          obtain ⟨us, hsrc, hus⟩ := (sl_ok hops hq hy hn).src
          have hnrows := rows_sz (sl_ok hops hq hy hn)
          have hrrows := rows_sz hv
          have hxs := row_cells hv hown
          obtain ⟨v', w', hr, hcase⟩ := run_app2 (P := P) w B t o.type e' j z hu hj hz hzs _ rows.length xs hown _ news.length us hsrc hus.2.1 h63 hby hst.base
          rcases hcase with ⟨h0, rfl, rfl⟩ | ⟨hm, hown', hb, hcase⟩
          · have : news = [] := List.eq_nil_of_length_eq_zero h0
            subst this
            refine OpWp.value (hrun a _ _ _ (by rw [hveq]; exact hr)) ⟨k, ⟨by simpa using hv, v', rows.length, hku, by simp, fun _ => rfl⟩, Ext.refl B k _, ?_⟩
            simp only [List.length_nil, Nat.add_zero]
            have : s.set id (.row e' j.size rows.length) = s := by
              obtain ⟨h10, h11⟩ := List.getElem?_eq_some_iff.1 hid
              rw [← h11]; exact List.set_getElem_self h10
            rw [this]; exact hst
          · have hrest : ∃ g', v'.ownBlock = some g' ∧ (u.ownBlock = some g' ∨ (g' = w.heap.size ∧ w.heap.size < w'.heap.size)) ∧ (∀ b, b < w.heap.size → b ≠ g' → w'.heap[b]? = w.heap[b]?) ∧ (u.ownBlock = some g' → ∀ q x, q < rows.length * j.size → w.cell? ⟨g', q, none⟩ = some x → w'.cell? ⟨g', q, none⟩ = some x) := by
              rcases hcase with ⟨g, hg1, hg2, hgb⟩ | ⟨hg, hlt, hgb⟩
              · refine ⟨g, hg1, .inl hg2, fun b hb hne => hgb.block b hb (by simpa using hne), fun _ q x hq hc => ?_⟩
                have e1 := hown.cells hg2 
                have e2 := hown'.cells hg1
                have hl := hown.1
                have hxq : xs[q]? = some xs[q] := List.getElem?_eq_getElem (by omega)
                have a1 := e1 q _ hxq
                rw [Addr.add_mid, Nat.zero_add] at a1
                rw [a1] at hc
                obtain rfl := Option.some.inj hc
                have a2 := e2 q xs[q] (by rw [List.getElem?_append_left (by omega)]; exact hxq)
                rw [Addr.add_mid, Nat.zero_add] at a2
                exact a2
              · refine ⟨w.heap.size, hg, .inr ⟨rfl, hlt⟩, fun b hb _ => hgb.block b hb (by simp), fun hg2 => ?_⟩
                have := (hst.lies id _ _ hku hg2).2; omega
            obtain ⟨g', hg', hcase', hblk, hpre⟩ := hrest
            obtain ⟨he, hs2⟩ := hst.grow (x := (rows.length + news.length) * j.size) (ob := .row e' j.size (rows.length + news.length)) (List.getElem?_eq_some_iff.1 hid).1 hI hku hm (by rw [Nat.add_mul]; omega) hb hg' hcase' hblk hpre (fun _ h => by cases h) (fun _ _ _ h => by cases h; exact ⟨rfl, rfl, _, hown'⟩) (fun _ _ _ h => by cases h)
            have hidlt := (List.getElem?_eq_some_iff.1 hku).1
            refine OpWp.value (hrun a _ _ _ (by rw [hveq]; exact hr)) ⟨_, ⟨?_, v', rows.length + news.length, by simp [hidlt], by simp, fun _ => rfl⟩, he, hs2⟩
            refine row_RD hown' (by rw [List.flatten_append]; exact (hxs.mono he.keep).append (hus.mono he.keep)) (by simp) (fun r hr => ?_) fun g hgg => ?_
            · rcases List.mem_append.1 hr with hr | hr
              · exact hrrows r hr
              · exact hnrows r hr
            · rw [hg'] at hgg; cases hgg
              exact Nat.le_of_eq (updI_self ..).symm
        · cases h
      · cases h
    · cases h
  · cases h

/-- A store into an own variable. -/
theorem St.store {B : Nat} {k : Cfg} {w w' : World} (h : St B k s w) {id b t : Nat} {us us' : List Value} {ds ds' : List AV} (hid : s[id]? = some (.cells ds)) (hk : k.own[id]? = some (.blk b)) (hh : w.heap[b]? = some (.cells us.toArray t (0, 0)))
    (hw : w' = w.setRow b us'.toArray) (hn : ∀ k' w', Ext B k w k' w' → RAs k' w' us' ds') : Ext B k w k w' ∧ St B k (s.set id (.cells ds')) w' := by
  subst hw
  have hidlt2 := (List.getElem?_eq_some_iff.1 hid).1
  obtain ⟨l1, l2⟩ := h.lies id _ b hk rfl
  have hI := h.blkI id b hk
  have he : Ext B k w k (w.setRow b us'.toArray) := by
    refine ⟨⟨rfl, rfl, rfl, by simp, fun j hj => setRow_other w b j _ (by omega)⟩, fun b' q u hq hc => ⟨hq, ?_⟩, fun _ _ => rfl, fun _ o' ho' => ⟨o', ho', OwnLe.refl _⟩⟩
    have hne : b' ≠ b := by rintro rfl; omega
    exact (World.cell?_of_block (w := w) (setRow_other w b b' _ hne)).trans hc
  refine ⟨he, by simpa using h.base, by simp [h.len], fun j cs hs => ?_, fun j e' sz' n' hs => ?_, fun j e' sz' cs hs => ?_, fun j o' b' ho' hbb => ?_, h.blkI, h.apart⟩
  · by_cases hj : j = id
    · subst hj
      simp [hidlt2] at hs
      subst hs
      exact ⟨b, t, us', hk, setRow_heap w b _ _ t (0, 0) hh, hn k _ he⟩
    · rw [List.getElem?_set_ne (Ne.symm hj)] at hs
      obtain ⟨b', t', vs, h1, h2, h3⟩ := h.cells j cs hs
      have hne : b' ≠ b := fun e => h.apart j id _ _ b' hj h1 hk rfl (by rw [e]; rfl)
      exact ⟨b', t', vs, h1, by rw [setRow_other w b b' _ hne]; exact h2, h3.mono he⟩
  · have hj : j ≠ id := by rintro rfl; simp [hidlt2] at hs
    rw [List.getElem?_set_ne (Ne.symm hj)] at hs
    obtain ⟨u, ys, h1, h2, h3⟩ := h.row j e' sz' n' hs
    refine ⟨u, ys, h1, ⟨h2.1, ?_⟩, h3⟩
    rcases h2.2 with e1 | ⟨g, cap, cur, e1, e2, e3, e4⟩
    · exact .inl e1
    · have hne : g ≠ b := fun e => h.apart j id _ _ g hj h1 hk (by rw [e1]; rfl) (by rw [e]; rfl)
      exact .inr ⟨g, cap, cur, e1, e2, by rw [setRow_other w b g _ hne]; exact e3, e4⟩
  · have hj : j ≠ id := by rintro rfl; simp [hidlt2] at hs
    rw [List.getElem?_set_ne (Ne.symm hj)] at hs
    obtain ⟨u, n2, ys, h1, h2, h3, h4, h5⟩ := h.vec j e' sz' cs hs
    refine ⟨u, n2, ys, h1, ⟨h2.1, ?_⟩, h3, h4, h5.mono he⟩
    rcases h2.2 with e1 | ⟨g, cap, cur, e1, e2, e3, e4⟩
    · exact .inl e1
    · have hne : g ≠ b := fun e => h.apart j id _ _ g hj h1 hk (by rw [e1]; rfl) (by rw [e]; rfl)
      exact .inr ⟨g, cap, cur, e1, e2, by rw [setRow_other w b g _ hne]; exact e3, e4⟩
  · obtain ⟨m1, m2⟩ := h.lies j o' b' ho' hbb
    exact ⟨m1, by simpa using m2⟩

theorem ok_st {t : TypeId} {i : TypeInfo} {p q : Operand} {x y : X} (ho : o.op = .store t p q) (hi : P.info? t = some i) (hx : cX P 0 p = some x) (hy : cX P t q = some y) (h : (CI.st i.size x y).sem fr s = some (d, s')) : AOp P o fr s d s' := by
  have hp : p ∈ o.op.operands := by rw [ho]; simp [Op.operands]
  have hq : q ∈ o.op.operands := by rw [ho]; simp [Op.operands]
  simp only [CI.sem] at h
  split at h
  · rename_i id off vs hc hv
    split at h
    · rename_i cs hid
      split at h
      · rename_i hcc
        obtain ⟨hm, hoff⟩ := hcc
        obtain ⟨rfl, rfl⟩ := Prod.mk.inj (Option.some.inj h)
        obtain ⟨c, hc1, hc2⟩ := Option.bind_eq_some_iff.1 hv
        intro B k a w hops hst
        obtain ⟨b, hb, hva⟩ : RL k w (a.eval p) (.ptr id off) := ev_ok hops hp hx hc
        have hcells := (ev_ok hops hq hy hc1).cells hc2
        obtain ⟨b', t', us, g1, g2, g3⟩ := hst.cells id cs hid
        rw [hb] at g1; simp at g1; subst g1
        have hlen : (a.eval q).cells.toList.length = i.size := by rw [hcells.1, hm]
        have hsz : (a.eval q).cells.size = i.size := by simpa using hlen
        have hst1 := run_storeCells_at P b off t' (a.eval q).cells.toList 0 us.toArray w g2 (by have := g3.1; simp; omega) hcells.2.1
        obtain ⟨he, hs2⟩ := hst.store (us' := us.take off ++ (a.eval q).cells.toList ++ us.drop (off + i.size)) (ds' := cs.take off ++ vs ++ cs.drop (off + i.size)) hid hb g2 rfl
          fun k' w' he => (((g3.mono he).take off).append (hcells.mono he)).append ((g3.mono he).drop _)
        refine OpWp.skip (w' := w.setRow b (us.take off ++ (a.eval q).cells.toList ++ us.drop (off + i.size)).toArray) ?_ ⟨k, RA.undf, he, hs2⟩
        unfold execOp; rw [ho]
        refine run_unit ?_
        have hne : ¬ ((a.eval q).cells.size ≠ i.size) := fun hh => hh hsz
        simp only [Instr.storeAt, hva, Instr.sureAddr, storeVar, sizeOf, typeInfo, Sem.run_bind, Sem.run_pure, Result.andThen_ok, run_program, hi, if_neg hne]
        rw [hst1]
        simp [hlen]
        done
      · cases h
    · cases h
  · rename_i id n off vs hc hv
    split at h
    · rename_i e sz ds hid
      split at h
      · rename_i hcc
        obtain ⟨c1, c2, hm, hoff⟩ := hcc
        obtain ⟨rfl, rfl⟩ := Prod.mk.inj (Option.some.inj h)
        obtain ⟨c, hc1, hc2⟩ := Option.bind_eq_some_iff.1 hv
        intro B k a w hops hst
        obtain ⟨b, hva, hb⟩ : RL k w (a.eval p) (.vptr id n off) := ev_ok hops hp hx hc
        obtain ⟨u, xs, cap, cur, g1, g2, g3, g4, g5, g6, g7, g8, g9, g10, g11, g12⟩ := vec_at hst hid c1 c2 hb
        have hcells := (ev_ok hops hq hy hc1).cells hc2
        have hlen : (a.eval q).cells.toList.length = i.size := by rw [hcells.1, hm]
        have hsz : (a.eval q).cells.size = i.size := by simpa using hlen
        have hle : n * sz ≤ cap * sz := Nat.mul_le_mul_right _ g6
        have hst1 := run_storeCells_at P b off e (a.eval q).cells.toList 0 cur w g5 (by omega) hcells.2.1
        have hidlt2 := (List.getElem?_eq_some_iff.1 hid).1
        have hcur : (cur.toList.take off ++ (a.eval q).cells.toList ++ cur.toList.drop (off + i.size)).take (n * sz) = xs.take off ++ (a.eval q).cells.toList ++ xs.drop (off + i.size) := by
          rw [← g9]
          have hcl : cur.toList.length = cap * sz := by simpa using g8
          refine List.ext_getElem? fun r => ?_
          simp only [List.append_assoc, List.getElem?_append, List.getElem?_take, List.getElem?_drop, List.length_take, hlen, hcl]
          repeat' split
          all_goals first
            | rfl
            | omega
            | (congr 1; omega)
            | (exfalso; omega)
            | (simp_all; done)
            | (symm; apply List.getElem?_eq_none; omega)
            | (apply List.getElem?_eq_none; omega)
        have he : Ext B k w k (w.setRow b (cur.toList.take off ++ (a.eval q).cells.toList ++ cur.toList.drop (off + i.size)).toArray) := by
          refine ⟨⟨rfl, rfl, rfl, by simp, fun j hj => setRow_other w b j _ (by omega)⟩, fun b' q' u hq' hc' => ⟨hq', ?_⟩, fun _ _ => rfl, fun _ o' ho' => ⟨o', ho', OwnLe.refl _⟩⟩
          have hne : b' ≠ b := by rintro rfl; omega
          exact (World.cell?_of_block (w := w) (setRow_other w b b' _ hne)).trans hc'
        have hub : u.ownBlock = some b := by rw [g3]; rfl
        have hs2 : St B k (s.set id (.vec e sz (ds.take off ++ vs ++ ds.drop (off + i.size)))) (w.setRow b (cur.toList.take off ++ (a.eval q).cells.toList ++ cur.toList.drop (off + i.size)).toArray) := by
          refine ⟨by simpa using hst.base, by simp [hst.len], fun j cs hs => ?_, fun j e' sz' n' hs => ?_, fun j e' sz' cs hs => ?_, fun j o' b' ho' hbb => ?_, hst.blkI, hst.apart⟩
          · have hj : j ≠ id := by rintro rfl; simp [hidlt2] at hs
            rw [List.getElem?_set_ne (Ne.symm hj)] at hs
            obtain ⟨b', t', ys, h1, h2, h3⟩ := hst.cells j cs hs
            have hne : b' ≠ b := fun e => hst.apart j id _ _ b' hj h1 g1 rfl (by rw [e]; exact hub)
            exact ⟨b', t', ys, h1, by rw [setRow_other w b b' _ hne]; exact h2, h3.mono he⟩
          · have hj : j ≠ id := by rintro rfl; simp [hidlt2] at hs
            rw [List.getElem?_set_ne (Ne.symm hj)] at hs
            obtain ⟨u', ys, h1, h2, h3⟩ := hst.row j e' sz' n' hs
            refine ⟨u', ys, h1, ⟨h2.1, ?_⟩, h3⟩
            rcases h2.2 with e1 | ⟨g, cap', cur', e1, e2, e3, e4⟩
            · exact .inl e1
            · have hne : g ≠ b := fun e => hst.apart j id _ _ g hj h1 g1 (by rw [e1]; rfl) (by rw [e]; exact hub)
              exact .inr ⟨g, cap', cur', e1, e2, by rw [setRow_other w b g _ hne]; exact e3, e4⟩
          · by_cases hj : j = id
            · subst hj
              simp [hidlt2] at hs
              obtain ⟨rfl, rfl, rfl⟩ := hs
              have hl5 : (xs.take off ++ (a.eval q).cells.toList ++ xs.drop (off + i.size)).length = n * sz := by
                have := g10.1
                simp only [List.length_append, List.length_take, List.length_drop, hlen]; omega
              refine ⟨u, n, xs.take off ++ (a.eval q).cells.toList ++ xs.drop (off + i.size), g1, ⟨hl5, .inr ⟨b, cap, _, g3, g4, setRow_heap w b _ _ e (0, 0) g5, g6, g7, ?_, ?_⟩⟩, fun g hg => ?_, ?_, by simpa [List.append_assoc] using (((g10.mono he).take off).append (hcells.mono he)).append ((g10.mono he).drop (off + i.size))⟩
              · have hcl : cur.toList.length = cap * sz := by simpa using g8
                simp only [List.size_toArray, List.length_append, List.length_take, List.length_drop, hlen, hcl]; omega
              · exact hcur
              · rw [hub] at hg; cases hg; exact g11
              · simp only [List.length_append, List.length_take, List.length_drop, hm]; omega
            · rw [List.getElem?_set_ne (Ne.symm hj)] at hs
              obtain ⟨u', n2, ys, h1, h2, h3, h4, h5⟩ := hst.vec j e' sz' cs hs
              refine ⟨u', n2, ys, h1, ⟨h2.1, ?_⟩, h3, h4, h5.mono he⟩
              rcases h2.2 with e1 | ⟨g, cap', cur', e1, e2, e3, e4⟩
              · exact .inl e1
              · have hne : g ≠ b := fun e => hst.apart j id _ _ g hj h1 g1 (by rw [e1]; rfl) (by rw [e]; exact hub)
                exact .inr ⟨g, cap', cur', e1, e2, by rw [setRow_other w b g _ hne]; exact e3, e4⟩
          · obtain ⟨m1, m2⟩ := hst.lies j o' b' ho' hbb
            exact ⟨m1, by simpa using m2⟩
        refine OpWp.skip (w' := w.setRow b (cur.toList.take off ++ (a.eval q).cells.toList ++ cur.toList.drop (off + i.size)).toArray) ?_ ⟨k, RA.undf, he, hs2⟩
        unfold execOp; rw [ho]
        refine run_unit ?_
        have hne : ¬ ((a.eval q).cells.size ≠ i.size) := fun hh => hh hsz
        simp only [Instr.storeAt, hva, Instr.sureAddr, storeVar, sizeOf, typeInfo, Sem.run_bind, Sem.run_pure, Result.andThen_ok, run_program, hi, if_neg hne]
        rw [hst1]
        simp [hlen]
        done
      · cases h
    · cases h
  · cases h

/-! ### Rows that are made -/

theorem chunk_len {α : Type} (sz : Nat) : ∀ (n : Nat) (l : List α), (chunk sz n l).length = n
  | 0, _ => rfl
  | n + 1, l => by simp [chunk, chunk_len sz n]
theorem chunk_flat {α : Type} (sz : Nat) : ∀ (n : Nat) (l : List α), l.length = n * sz → (chunk sz n l).flatten = l ∧ ∀ r ∈ chunk sz n l, r.length = sz
  | 0, l, h => by
    obtain rfl : l = [] := List.eq_nil_of_length_eq_zero (by simpa using h)
    exact ⟨rfl, by simp [chunk]⟩
  | n + 1, l, h => by
    rw [Nat.add_mul] at h
    obtain ⟨h1, h2⟩ := chunk_flat sz n (l.drop sz) (by simp; omega)
    refine ⟨by rw [chunk, List.flatten_cons, h1, List.take_append_drop], fun r hr => ?_⟩
    rw [chunk] at hr
    rcases List.mem_cons.1 hr with rfl | hr
    · simp; omega
    · exact h2 r hr

/-- A new row, whose first n elements are told. -/
theorem made_ok {B : Nat} {k : Cfg} {w : World} (hst : St B k s w) {mu : Bool} {e sz n cap : Nat} {cur : Array Value} {cs : List AV} (hcs : RAs k w (cur.toList.take (n * sz)) cs) (hn : cs.length = n * sz) (hsz : cur.size = cap * sz) (hnc : n ≤ cap) (hcm : cap ≤ 9223372036854775807)
    (h : (if mu then some (AV.vec s.length n sz, s ++ [AObj.vec e sz cs]) else match toLs cs with
      | some ds => some (.tsl s.length sz (chunk sz n ds), s ++ [.row e sz n])
      | none => none) = some (d, s')) :
    ∃ k', RA k' (w.alloc (.cells cur e)) (.slice (some ⟨w.heap.size, 0, none⟩) n cap) d ∧ Ext B k w k' (w.alloc (.cells cur e)) ∧ St B k' s' (w.alloc (.cells cur e)) := by
  have hb : Below w.heap.size w (w.alloc (.cells cur e)) := (Below.refl _ _).alloc (Nat.le_refl _) _
  have hh : (w.alloc (.cells cur e)).heap[w.heap.size]? = some (.cells cur e (0, 0)) := heap_alloc_new w _
  have hown : (w.alloc (.cells cur e)).ownsRow B e sz (.slice (some ⟨w.heap.size, 0, none⟩) n cap) n (cur.toList.take (n * sz)) :=
    ⟨by rw [hcs.1, hn], .inr ⟨w.heap.size, cap, cur, rfl, hst.base, hh, hnc, by unfold maxLen; exact hcm, hsz, rfl⟩⟩
  have hext : ∀ x, Ext B k w ⟨updI k.I w.heap.size x, k.own ++ [.row (.slice (some ⟨w.heap.size, 0, none⟩) n cap) n]⟩ (w.alloc (.cells cur e)) := fun x =>
    Ext.fresh hst.base hb (fun b hb => updI_ne _ _ (by omega)) _ fun id o' ho => ⟨o', getElem?_snoc_old _ ho, OwnLe.refl _⟩
  cases mu with
  | true =>
    obtain ⟨rfl, rfl⟩ := Prod.mk.inj (Option.some.inj (by simpa using h))
    obtain ⟨he, hs2⟩ := hst.new hb (by simp) 0 (.row (.slice (some ⟨w.heap.size, 0, none⟩) n cap) n) (.vec e sz cs) rfl (fun _ h => by cases h) (fun _ h => by cases h) (fun _ _ _ h => by cases h)
      (fun _ _ _ h => by cases h; exact ⟨_, n, _, rfl, hown, rfl, hn, hcs.mono (hext 0)⟩)
    exact ⟨_, ⟨⟨_, _, rfl⟩, _, n, by rw [← hst.len]; simp, Nat.le_refl _, fun _ => rfl⟩, he, hs2⟩
  | false =>
    simp only [Bool.false_eq_true, if_false] at h
    split at h
    · rename_i ds hds
      obtain ⟨rfl, rfl⟩ := Prod.mk.inj (Option.some.inj h)
      obtain ⟨he, hs2⟩ := hst.new hb (by simp) (n * sz) (.row (.slice (some ⟨w.heap.size, 0, none⟩) n cap) n) (.row e sz n) rfl (fun _ h => by cases h) (fun _ h => by cases h)
        (fun _ _ _ h => by cases h; exact ⟨_, _, rfl, hown, rfl⟩) (fun _ _ _ h => by cases h)
      have hl := (toLs_get hds).1
      obtain ⟨hf1, hf2⟩ := chunk_flat sz n ds (by omega)
      refine ⟨_, ⟨?_, _, n, by rw [← hst.len]; simp, by rw [chunk_len]; exact Nat.le_refl _, fun _ => rfl⟩, he, hs2⟩
      refine row_RD hown (by rw [hf1]; exact (hcs.toLs hds).mono he.keep) (chunk_len sz n ds) hf2 fun g hg => ?_
      cases hg
      exact Nat.le_of_eq (updI_self ..).symm
    · cases h

theorem ok_bsl {mu : Bool} {t : TypeId} {n : Nat} {parts : Array (Nat × Operand)} {e sz n' : Nat} {z : List AV} {qs : List (Nat × Nat × X)} (ho : o.op = .buildSlice t n parts) (hc : compBsl P mu t n parts.toList = some (.bsl mu e sz n' z qs))
    (h : (CI.bsl mu e sz n' z qs).sem fr s = some (d, s')) : AOp P o fr s d s' := by
  unfold compBsl at hc
  split at hc
  · rename_i e hu
    split at hc
    · rename_i ie hie
      split at hc
      · rename_i z0 hz
        split at hc
        · rename_i hcc
          obtain ⟨c1, c2, c3⟩ := hcc
          obtain ⟨qs', hq, he⟩ := Option.map_eq_some_iff.1 hc
          cases he
          simp only [CI.sem] at h
          split at h
          · rename_i cs hcs
            split at h
            · rename_i hcc2
              obtain ⟨d1, d2⟩ := hcc2
              intro B k a w hops hst
              have hmem : ∀ x ∈ parts.toList, x.2 ∈ o.op.operands := fun x hx => by
                rw [ho]; simp only [Op.operands]; simp; exact ⟨x.1, by simpa using hx⟩
              obtain ⟨arr', g1, g2⟩ := fill_ok (a := a) hops hq hmem (zCells_ok (P := P) (t := e) (fun u hu => Array.all_eq_true_iff_forall_mem.1 c3 u (by simpa using hu)) k w) hcs
              have hl : arr'.size = n * ie.size := by have := g2.1; simp at this; omega
              obtain ⟨k', m1, m2, m3⟩ := made_ok hst (mu := mu) (e := e) (sz := ie.size) (n := n) (cap := n) (cur := arr') (cs := cs) (by rw [List.take_of_length_le (by simp; omega)]; exact g2) d1 hl (Nat.le_refl _) d2 h
              refine OpWp.value (v := .slice (some ⟨w.heap.size, 0, none⟩) n n) (w' := w.alloc (.cells arr' e)) ?_ ⟨k', m1, m2, m3⟩
              unfold execOp; rw [ho]
              refine run_value ?_
              have hne : ¬ (n * ie.size > 2 ^ 24) := by omega
              have g1' : Instr.fill (fun i => some (i * ie.size, ie.size)) (zeros z0.cells (n * ie.size)) (parts.map fun x => (x.1, a.eval x.2)).toList = some arr' := by rw [← g1]; simp
              by_cases h0 : n * ie.size = 0
              · have hzz : ∀ zz : Array Value, (Array.range (n * ie.size)).map (fun x => zz[x % zz.size]!) = zeros z0.cells (n * ie.size) := fun zz => by rw [h0]; simp [zeros]
                simp only [Instr.buildSlice, Sem.run_bind, run_underlying hu, Result.andThen_ok, sizeOf, typeInfo, run_program, hie, Sem.run_pure, if_neg hne, if_pos h0, hzz, g1', newRow, run_newObj]
                rfl
              · have hzz : (Array.range (n * ie.size)).map (fun x => z0.cells[x % z0.cells.size]!) = zeros z0.cells (n * ie.size) := rfl
                simp only [Instr.buildSlice, Sem.run_bind, run_underlying hu, Result.andThen_ok, sizeOf, typeInfo, run_program, hie, Sem.run_pure, if_neg hne, if_neg h0, zeroValue, hz, hzz, g1', newRow, run_newObj]
                rfl
            · cases h
          · cases h
        · cases hc
      · cases hc
    · cases hc
  · cases hc

theorem frozen_ok {B : Nat} {k : Cfg} {w : World} (hst : St B k s w) {e sz n cap : Nat} {cur : Array Value} {cs : List AV} (hcs : RAs k w (cur.toList.take (n * sz)) cs) (hn : cs.length = n * sz) (hsz : cur.size = cap * sz) (hnc : n ≤ cap) (hcm : cap ≤ 9223372036854775807)
    (h : (match toLs cs with
      | some ds => some (AV.d (.sl sz (chunk sz n ds)), s)
      | none => none) = some (d, s')) :
    ∃ k', RA k' (w.alloc (.cells cur e)) (.slice (some ⟨w.heap.size, 0, none⟩) n cap) d ∧ Ext B k w k' (w.alloc (.cells cur e)) ∧ St B k' s' (w.alloc (.cells cur e)) := by
  have hb : Below w.heap.size w (w.alloc (.cells cur e)) := (Below.refl _ _).alloc (Nat.le_refl _) _
  have hh : (w.alloc (.cells cur e)).heap[w.heap.size]? = some (.cells cur e (0, 0)) := heap_alloc_new w _
  have hown : (w.alloc (.cells cur e)).ownsRow B e sz (.slice (some ⟨w.heap.size, 0, none⟩) n cap) n (cur.toList.take (n * sz)) :=
    ⟨by rw [hcs.1, hn], .inr ⟨w.heap.size, cap, cur, rfl, hst.base, hh, hnc, by unfold maxLen; exact hcm, hsz, rfl⟩⟩
  split at h
  · rename_i ds hds
    obtain ⟨rfl, rfl⟩ := Prod.mk.inj (Option.some.inj h)
    have he := Ext.called (k := k) hst.base hb
    have hl := (toLs_get hds).1
    obtain ⟨hf1, hf2⟩ := chunk_flat sz n ds (by omega)
    refine ⟨_, ?_, he, hst.called hb⟩
    refine row_RD hown (by rw [hf1]; exact (hcs.toLs hds).mono he.keep) (chunk_len sz n ds) hf2 fun g hg => ?_
    cases hg
    have hb2 : bigI k.I w.heap.size (w.alloc (.cells cur e)) w.heap.size = cur.size := by
      unfold bigI cellsIn
      rw [if_neg (Nat.lt_irrefl _), hh]
    show n * sz ≤ bigI k.I w.heap.size (w.alloc (.cells cur e)) w.heap.size
    rw [hb2, hsz]; exact Nat.mul_le_mul_right _ hnc
  · cases h

theorem ok_bsf {t : TypeId} {n : Nat} {parts : Array (Nat × Operand)} {sz n' : Nat} {z : List AV} {qs : List (Nat × Nat × X)} (ho : o.op = .buildSlice t n parts) (hc : compBsf P t n parts.toList = some (.bsf sz n' z qs))
    (h : (CI.bsf sz n' z qs).sem fr s = some (d, s')) : AOp P o fr s d s' := by
  unfold compBsf at hc
  split at hc
  · rename_i e hu
    split at hc
    · rename_i ie hie
      split at hc
      · rename_i z0 hz
        split at hc
        · rename_i hcc
          obtain ⟨c1, c2, c3⟩ := hcc
          obtain ⟨qs', hq, he⟩ := Option.map_eq_some_iff.1 hc
          cases he
          simp only [CI.sem] at h
          split at h
          · rename_i cs hcs
            split at h
            · rename_i hcc2
              obtain ⟨d1, d2⟩ := hcc2
              intro B k a w hops hst
              have hmem : ∀ x ∈ parts.toList, x.2 ∈ o.op.operands := fun x hx => by
                rw [ho]; simp only [Op.operands]; simp; exact ⟨x.1, by simpa using hx⟩
              obtain ⟨arr', g1, g2⟩ := fill_ok (a := a) hops hq hmem (zCells_ok (P := P) (t := e) (fun u hu => Array.all_eq_true_iff_forall_mem.1 c3 u (by simpa using hu)) k w) hcs
              have hl : arr'.size = n * ie.size := by have := g2.1; simp at this; omega
              obtain ⟨k', m1, m2, m3⟩ := frozen_ok hst (e := e) (sz := ie.size) (n := n) (cap := n) (cur := arr') (cs := cs) (by rw [List.take_of_length_le (by simp; omega)]; exact g2) d1 hl (Nat.le_refl _) d2 h
              refine OpWp.value (v := .slice (some ⟨w.heap.size, 0, none⟩) n n) (w' := w.alloc (.cells arr' e)) ?_ ⟨k', m1, m2, m3⟩
              unfold execOp; rw [ho]
              refine run_value ?_
              have hne : ¬ (n * ie.size > 2 ^ 24) := by omega
              have g1' : Instr.fill (fun i => some (i * ie.size, ie.size)) (zeros z0.cells (n * ie.size)) (parts.map fun x => (x.1, a.eval x.2)).toList = some arr' := by rw [← g1]; simp
              by_cases h0 : n * ie.size = 0
              · have hzz : ∀ zz : Array Value, (Array.range (n * ie.size)).map (fun x => zz[x % zz.size]!) = zeros z0.cells (n * ie.size) := fun zz => by rw [h0]; simp [zeros]
                simp only [Instr.buildSlice, Sem.run_bind, run_underlying hu, Result.andThen_ok, sizeOf, typeInfo, run_program, hie, Sem.run_pure, if_neg hne, if_pos h0, hzz, g1', newRow, run_newObj]
                rfl
              · have hzz : (Array.range (n * ie.size)).map (fun x => z0.cells[x % z0.cells.size]!) = zeros z0.cells (n * ie.size) := rfl
                simp only [Instr.buildSlice, Sem.run_bind, run_underlying hu, Result.andThen_ok, sizeOf, typeInfo, run_program, hie, Sem.run_pure, if_neg hne, if_neg h0, zeroValue, hz, hzz, g1', newRow, run_newObj]
                rfl
            · cases h
          · cases h
        · cases hc
      · cases hc
    · cases hc
  · cases hc

theorem zeros_one (z : Value) (n : Nat) : zeros #[z] n = (List.replicate n z).toArray := by
  unfold zeros
  apply Array.ext'
  simp
  refine List.ext_getElem? fun i => ?_
  simp only [List.getElem?_map, List.getElem?_replicate, List.getElem?_range']
  by_cases h : i < n
  · simp [h, Nat.mod_one]
  · simp [h]

theorem wrap64_id {n : Int} (h : 0 ≤ n) (h2 : n < 9223372036854775808) : IntKind.i64.wrap n = n := by
  simp only [IntKind.wrap, IntKind.bits, IntKind.signed]
  have : n % 2 ^ 64 = n := by omega
  simp only [this]
  simp; omega

theorem ok_mks {mu : Bool} {t : TypeId} {p q : Operand} {e bytes : Nat} {z : AV} {x y : X} (ho : o.op = .makeSlice t p q) (hc : compMks P mu t p q = some (.mks mu e bytes z x y)) (h : (CI.mks mu e bytes z x y).sem fr s = some (d, s')) : AOp P o fr s d s' := by
  have hp : p ∈ o.op.operands := by rw [ho]; simp [Op.operands]
  have hq : q ∈ o.op.operands := by rw [ho]; simp [Op.operands]
  unfold compMks at hc
  split at hc
  · rename_i e0 x0 y0 hu hx hy
    split at hc
    · rename_i ie hie
      split at hc
      · rename_i z0 hz
        split at hc
        · rename_i hcc
          obtain ⟨c1, c2, c3⟩ := hcc
          cases hc
          simp only [CI.sem] at h
          split at h
          · rename_i n m hn hm
            split at h
            · rename_i hcc2
              obtain ⟨d1, d2, d3, d4⟩ := hcc2
              intro B k a w hops hst
              have hp2 := int_ok hops hp hx hn
              have hq2 := int_ok hops hq hy hm
              have hzc : z0.cells = #[z0] := by cases z0 <;> first | rfl | simp [Value.oneCell'] at c2
              have hras : RAs k w (List.replicate n.toNat z0) (List.replicate n.toNat (cL P e z0)) := by
                refine ⟨by simp, fun u hu => ?_, fun i u d hu hd => ?_⟩
                · obtain ⟨_, rfl⟩ := List.mem_replicate.1 hu; exact c2
                · rw [List.getElem?_replicate] at hu hd
                  split at hu
                  · rename_i hlt
                    rw [if_pos hlt] at hd
                    cases hu; cases hd
                    exact cL_ok ..
                  · cases hu
              have htake : (zeros #[z0] m.toNat).toList.take (n.toNat * 1) = List.replicate n.toNat z0 := by
                rw [zeros_one]; simp [List.take_replicate]; omega
              have hcsz : (zeros #[z0] m.toNat).size = m.toNat * 1 := by rw [zeros_one]; simp
              have hmade := made_ok hst (mu := mu) (e := e) (sz := 1) (n := n.toNat) (cap := m.toNat) (cur := zeros #[z0] m.toNat) (cs := List.replicate n.toNat (cL P e z0)) (d := d) (s' := s') (by rw [htake]; exact hras) (by simp) hcsz (by omega) (by omega) (by
                cases mu with
                | true => simpa using h
                | false =>
                  simp only [Bool.false_eq_true, if_false] at h ⊢
                  split at h
                  · rename_i dz hdz
                    have ht : ∀ k : Nat, toLs (List.replicate k (cL P e z0)) = some (List.replicate k dz) := fun k => by
                      induction k with
                      | zero => rfl
                      | succ k ih => simp [List.replicate_succ, toLs, hdz, ih]
                    have hch : ∀ k : Nat, chunk 1 k (List.replicate k dz) = List.replicate k [dz] := fun k => by
                      induction k with
                      | zero => rfl
                      | succ k ih => simp [List.replicate_succ, chunk, ih]
                    rw [ht]
                    simp only [hch]
                    exact h
                  · cases h)
              obtain ⟨k', m1, m2, m3⟩ := hmade
              refine OpWp.value (v := .slice (some ⟨w.heap.size, 0, none⟩) n.toNat m.toNat) (w' := w.alloc (.cells (zeros #[z0] m.toNat) e)) ?_ ⟨k', m1, m2, m3⟩
              unfold execOp; rw [ho]
              refine run_value ?_
              have hb1 : (1 : Int) ≤ ie.bytes := by omega
              have hmb : m * 1 ≤ m * (ie.bytes : Int) := Int.mul_le_mul_of_nonneg_left hb1 (by omega)
              have hw1 : IntKind.i64.wrap n = n := wrap64_id d1 (by omega)
              have hw2 : IntKind.i64.wrap m = m := wrap64_id (by omega) (by omega)
              have hlarge : (decide (m < 0) || decide ((ie.bytes : Int) * m > 2 ^ 48)) = false := by
                rw [Int.mul_comm]; simp; omega
              have hcond : (((decide (m < 0) || decide ((ie.bytes : Int) * m > 2 ^ 48)) || decide (n < 0)) || decide (n > m)) = false := by
                rw [hlarge]; simp; omega
              have hzz : ∀ zz : Array Value, (m.toNat = 0 ∨ zz = #[z0]) → (Array.range (m.toNat * 1)).map (fun x => zz[x % zz.size]!) = zeros #[z0] m.toNat := fun zz hz0 => by
                rcases hz0 with h0 | rfl
                · rw [h0]; simp [zeros]
                · rw [Nat.mul_one]; rfl
              by_cases h0 : m.toNat * 1 = 0
              · simp only [Instr.makeSlice, hp2, hq2, asInt, asIntOf, Sem.run_bind, run_underlying hu, Result.andThen_ok, sizeOf, typeInfo, run_program, hie, Sem.run_pure, hw1, hw2, hcond, Bool.false_eq_true, if_false, run_askRoom, c1, if_pos h0, hzz _ (Or.inl (by omega : m.toNat = 0)), newRow, run_newObj]
                rfl
              · simp only [Instr.makeSlice, hp2, hq2, asInt, asIntOf, Sem.run_bind, run_underlying hu, Result.andThen_ok, sizeOf, typeInfo, run_program, hie, Sem.run_pure, hw1, hw2, hcond, Bool.false_eq_true, if_false, run_askRoom, c1, if_neg h0, zeroValue, hz, hzc, hzz _ (Or.inr rfl), newRow, run_newObj]
                rfl
            · cases h
          · cases h
        · cases hc
      · cases hc
    · cases hc
  · cases hc
end
end Go.Ab

namespace Go.Proofs.Lg
open Go Go.RowKit

theorem wp_app_room {P : Program} {w : World} {o : Oper} {a : Act} {K : Act → World → Prop} {Q : Exit → Act → World → Prop} (s x : Operand) (t e : TypeId)
    (ho : o.op = .call { callee := .builtin .append, args := #[s, x], argTypes := #[t, t] }) (i : TypeInfo) (ht : P.underlying t = some (.slice e)) (hi : P.info? e = some i)
    (g n c : Nat) (cur : Array Value) (hs : a.eval s = .slice (some ⟨g, 0, none⟩) n c) (hg : w.heap[g]? = some (.cells cur e (0, 0))) (hcs : cur.size = c * i.size)
    (ad : Addr) (m c2 : Nat) (news : List Value) (hx : a.eval x = .slice (some ad) m c2) (hl : news.length = m * i.size) (hc : ∀ j u, news[j]? = some u → w.cell? (ad.add j) = some u) (h1 : ∀ u ∈ news, u.oneCell' = true) (hroom : n + m ≤ c)
    (h : K (a.put o.dst (.slice (some ⟨g, 0, none⟩) (n + m) c)) (w.setRow g (cur.toList.take (n * i.size) ++ news ++ cur.toList.drop (n * i.size + news.length)).toArray)) : o.wp P a w K Q := by
  have hfit : n * i.size + news.length ≤ cur.size := by rw [hl, hcs, ← Nat.add_mul]; exact Nat.mul_le_mul_right _ hroom
  have hr := run_append_room (P := P) w t o.type e i ht hi g n c cur hg ad m c2 news hl hc h1 hroom hfit
  unfold Oper.wp execOp
  simp only [ho, resolve, invoke, builtin, Sem.run_bind, Sem.run_pure, Result.andThen_ok, List.map_toArray, List.map_cons, List.map_nil, hs, hx, hr]
  exact h
end Go.Proofs.Lg
