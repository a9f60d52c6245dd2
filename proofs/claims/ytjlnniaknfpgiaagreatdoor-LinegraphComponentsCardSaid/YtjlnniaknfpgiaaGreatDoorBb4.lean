/-
  Part Bb4 of this claim's proof. Joined by merge.py from the texts of wip/tpl.
-/
import Derived.Test.YtjlnniaknfpgiaaGreatDoorBb3
import Derived.OrdersIn
set_option linter.unusedVariables false
set_option linter.unusedSimpArgs false
set_option linter.unnecessarySimpa false
namespace Go.Bb
open Go Go.RowKit Go.Ab
def putF (fr : Fr) : Option Nat → AV → Fr
  | none, _ => fr
  | some t, x => (t, x) :: fr
def undefA : AV := .d (.sc undef)

/-- The slots hold what the frame says. -/
def FR (k : Cfg) (w : World) (a : Act) (fr : Fr) : Prop := ∀ t x, look fr t = some x → RA k w (a.tmps.getD t undef) x

theorem FR.mono {k k' : Cfg} {w w' : World} (he : Mono k w k' w') {a : Act} {fr : Fr} (h : FR k w a fr) : FR k' w' a fr := fun t x hx => (h t x hx).mono he

theorem getD_put (a : Act) (d : Nat) (v : Value) (hd : d < a.tmps.size) (t : Nat) : (a.put (some d) v).tmps.getD t undef = if d = t then v else a.tmps.getD t undef := by
  simp only [Act.put]
  by_cases h : d = t
  · subst h; simp [hd]
  · rw [if_neg h]; simp [Array.getElem?_setIfInBounds_ne h]

theorem FR.put {k : Cfg} {w : World} {a : Act} {fr : Fr} (h : FR k w a fr) {v : Value} {x : AV} (hx : RA k w v x) {dst : Option Nat} (hd : ∀ d, dst = some d → d < a.tmps.size) : FR k w (a.put dst v) (putF fr dst x) := by
  cases dst with
  | none => exact h
  | some d =>
    intro t y hy
    rw [getD_put a d v (hd d rfl) t]
    unfold putF look at hy
    split at hy
    · rename_i e; rw [if_pos e]; obtain rfl := Option.some.inj hy; exact hx
    · rename_i e; rw [if_neg e]; exact h t y hy

theorem put_size (a : Act) (dst : Option Nat) (v : Value) : (a.put dst v).tmps.size = a.tmps.size := by cases dst <;> simp [Act.put]
theorem put_defers' (a : Act) (dst : Option Nat) (v : Value) : (a.put dst v).defers = a.defers := by cases dst <;> rfl

/-- The operands of an operation hold what the frame says. -/
def Ops (k : Cfg) (w : World) (a : Act) (o : Oper) (fr : Fr) : Prop := ∀ t x, Operand.tmp t ∈ o.op.operands → look fr t = some x → RA k w (a.tmps.getD t undef) x
theorem FR.ops {k : Cfg} {w : World} {a : Act} {fr : Fr} (h : FR k w a fr) (o : Oper) : Ops k w a o fr := fun t x _ hx => h t x hx

/-- What an operation does, in whatever surroundings: it yields a value and a memory. -/
def FW : Option Nat → Fence
  | none => Fence.wide
  | some l => Fence.wide.inRound l
theorem FW_fn (r : Option Nat) (f : FuncId) : (FW r).fn f := by cases r <;> trivial
theorem FW_round (r : Option Nat) : (FW r).round = r := by cases r <;> rfl
theorem FW_depth (r : Option Nat) : (FW r).depth = none := by cases r <;> rfl
def notDefer (o : Oper) : Bool := match o.op with
  | .defer _ => false
  | _ => true
theorem semAt_plain {o : Oper} (h : notDefer o = true) (r : Option Nat) (ρ : Operand → Value) : o.semAt r ρ = execOp ρ o :=
  Oper.semAt_eq r ρ o fun c hc => by unfold notDefer at h; rw [hc] at h; cases h
def OpWp (P : Program) (o : Oper) (a : Act) (w : World) (Q : Value → World → Prop) : Prop :=
  notDefer o = true → ∀ (r : Option Nat) (QQ : Exit → Act → World → Prop), o.wpIn (FW r) 0 P a w (fun a' w' => ∃ v, a' = a.put o.dst v ∧ Q v w') QQ

/-- An operation as data. -/
def AOp (LL : Nat → Code → CC → Prop) (P : Program) (o : Oper) (fr : Fr) (s : List AObj) (d : AV) (s' : List AObj) : Prop :=
  ∀ (B : Nat) (k : Cfg) (a : Act) (w : World), Ops k w a o fr → St LL B k s w → OpWp P o a w fun v w' => ∃ k', RA k' w' v d ∧ Ext B k w k' w' ∧ St LL B k' s' w'

/-- Is a guarded operation wanted? -/
def gd (ops : Array Oper) (fr : Fr) (o : Oper) : Option Bool :=
  match o.guard with
  | none => some true
  | some (j, want) => match (ops[j]?).bind (·.dst) with
    | none => some false
    | some t => match look fr t with
      | some (.d (.sc (.bool b))) => some (b == want)
      | some (.d (.sc (.tuple _))) => some false
      | _ => none

/-- The slot that a guard looks at. -/
def gslot (ops : Array Oper) (o : Oper) : Option Nat := match o.guard with
  | none => none
  | some (j, _) => (ops[j]?).bind (·.dst)

theorem gd_wanted {ops : Array Oper} {fr : Fr} {o : Oper} {b : Bool} (h : gd ops fr o = some b) {k : Cfg} {w : World} {a : Act} (hf : ∀ t x, gslot ops o = some t → look fr t = some x → RA k w (a.tmps.getD t undef) x) :
    Region.wanted o (yielded ops a.tmps) = b := by
  unfold gd at h
  unfold Region.wanted
  unfold gslot at hf
  split at h
  · rename_i hg; rw [hg]; exact Option.some.inj h
  · rename_i j want hg
    simp only [hg] at hf ⊢
    split at h
    · rename_i hn
      unfold yielded
      rw [hn]
      obtain rfl := Option.some.inj h
      rfl
    · rename_i t hn
      unfold yielded
      rw [hn]
      simp only [Option.bind_some]
      split at h
      · rename_i b' hl
        have := hf t _ hn hl
        have hv : RD k.I w (a.tmps.getD t undef) (.sc (.bool b')) := this.d_inv
        generalize hu : a.tmps.getD t undef = u at hv
        cases hv
        have : a.tmps[t]? = some (.bool b') := by
          rw [Array.getD_eq_getD_getElem?] at hu
          cases hx : a.tmps[t]? with
          | none => simp [hx, undef] at hu
          | some y => simp [hx] at hu; rw [hu]
        rw [this]
        obtain rfl := Option.some.inj h
        cases b' <;> cases want <;> rfl
      · rename_i vs hl
        have := hf t _ hn hl
        have hv : RD k.I w (a.tmps.getD t undef) (.sc (.tuple vs)) := this.d_inv
        generalize hu : a.tmps.getD t undef = u at hv
        cases hv
        have : a.tmps[t]? = none ∨ a.tmps[t]? = some (.tuple vs) := by
          rw [Array.getD_eq_getD_getElem?] at hu
          cases hx : a.tmps[t]? with
          | none => exact .inl rfl
          | some y => simp [hx] at hu; right; rw [hu]
        obtain rfl := Option.some.inj h
        rcases this with e | e <;> rw [e] <;> rfl
      · cases h

/-- Two stores that hold the same where both hold something; where the first holds something the second may have a hole. -/
def Agrees (s s2 : List AObj) : Prop := ∀ id : Nat, id < s.length → id < s2.length → s2[id]? = s[id]? ∨ s2[id]? = some .hole
theorem Agrees.refl (s : List AObj) : Agrees s s := fun _ _ _ => .inl rfl
/-- That hold the same at one block. -/
def AgreesAt (b : Nat) (s s2 : List AObj) : Prop := b < s.length → b < s2.length → s2[b]? = s[b]? ∨ s2[b]? = some .hole
theorem AgreesAt.refl (b : Nat) (s : List AObj) : AgreesAt b s s := fun _ _ => .inl rfl
theorem Agrees.at {s s2 : List AObj} (h : Agrees s s2) (b : Nat) : AgreesAt b s s2 := fun h1 h2 => h b h1 h2
/-- Block b alone is written. -/
def SetAt (b : Nat) (s s1 : List AObj) : Prop := s1.length = s.length ∧ ∀ id : Nat, id ≠ b → s1[id]? = s[id]?

/-! What an operation touches of the own blocks, as a number: 0 nothing, 1 it reads, 2 it writes, 3 it makes one, 4 + 2 b it reads block b alone, 5 + 2 b it writes block b alone. -/
def isE (x : Nat) : Bool := x == 2 || x == 3 || (decide (5 ≤ x) && x % 2 == 1)
def isW (x : Nat) : Bool := x == 2 || (decide (5 ≤ x) && x % 2 == 1)
def isRd (x : Nat) : Bool := x == 1 || (decide (4 ≤ x) && x % 2 == 0)
theorem isE_cases {x : Nat} (h : isE x = true) : x = 2 ∨ x = 3 ∨ ∃ b, x = 5 + 2 * b := by
  unfold isE at h
  simp only [Bool.or_eq_true, Bool.and_eq_true, beq_iff_eq, decide_eq_true_eq] at h
  rcases h with (h | h) | ⟨h, h2⟩
  · exact .inl h
  · exact .inr (.inl h)
  · exact .inr (.inr ⟨(x - 5) / 2, by omega⟩)
theorem code_cases (x : Nat) : x = 0 ∨ x = 1 ∨ (∃ b, x = 4 + 2 * b) ∨ isE x = true := by
  by_cases h : isE x = true
  · exact .inr (.inr (.inr h))
  · unfold isE at h
    simp only [Bool.or_eq_true, Bool.and_eq_true, beq_iff_eq, decide_eq_true_eq] at h
    by_cases h0 : x = 0
    · exact .inl h0
    · by_cases h1 : x = 1
      · exact .inr (.inl h1)
      · exact .inr (.inr (.inl ⟨(x - 4) / 2, by omega⟩))

/-- A list of operations in the order of the text; what each touches: 0 nothing of the own blocks, 1 it reads, 2 it writes, 3 it makes one. -/
inductive AOps (LL : Nat → Code → CC → Prop) (P : Program) (ops : Array Oper) : List Oper → Fr → List AObj → List Nat → Fr → List AObj → Prop
  | nil (fr : Fr) (s : List AObj) : AOps LL P ops [] fr s [] fr s
  | skip (o : Oper) (rest : List Oper) (fr : Fr) (s : List AObj) (fl : List Nat) (fr' : Fr) (s' : List AObj) : gd ops fr o = some false → AOps LL P ops rest (putF fr o.dst undefA) s fl fr' s' → AOps LL P ops (o :: rest) fr s (0 :: fl) fr' s'
  | free (o : Oper) (rest : List Oper) (fr : Fr) (s : List AObj) (d : AV) (fl : List Nat) (fr' : Fr) (s' : List AObj) : gd ops fr o = some true → (∀ s, AOp LL P o fr s d s) → AOps LL P ops rest (putF fr o.dst d) s fl fr' s' → AOps LL P ops (o :: rest) fr s (0 :: fl) fr' s'
  | reads (o : Oper) (rest : List Oper) (fr : Fr) (s : List AObj) (d : AV) (fl : List Nat) (fr' : Fr) (s' : List AObj) : gd ops fr o = some true → (∀ s2, Agrees s s2 → AOp LL P o fr s2 d s2) → AOps LL P ops rest (putF fr o.dst d) s fl fr' s' → AOps LL P ops (o :: rest) fr s (1 :: fl) fr' s'
  | readsAt (b : Nat) (o : Oper) (rest : List Oper) (fr : Fr) (s : List AObj) (d : AV) (fl : List Nat) (fr' : Fr) (s' : List AObj) : gd ops fr o = some true → (∀ s2, AgreesAt b s s2 → AOp LL P o fr s2 d s2) → AOps LL P ops rest (putF fr o.dst d) s fl fr' s' → AOps LL P ops (o :: rest) fr s ((4 + 2 * b) :: fl) fr' s'
  | effAt (b : Nat) (o : Oper) (rest : List Oper) (fr : Fr) (s : List AObj) (d : AV) (s1 : List AObj) (fl : List Nat) (fr' : Fr) (s' : List AObj) : gd ops fr o = some true → AOp LL P o fr s d s1 → SetAt b s s1 → AOps LL P ops rest (putF fr o.dst d) s1 fl fr' s' → AOps LL P ops (o :: rest) fr s ((5 + 2 * b) :: fl) fr' s'
  | make (o : Oper) (rest : List Oper) (fr : Fr) (s : List AObj) (d : AV) (x : List AObj) (fl : List Nat) (fr' : Fr) (s' : List AObj) : gd ops fr o = some true → (∀ s2, Agrees s s2 → Holes s2 s.length x.length → AOp LL P o fr s2 d (fill s2 s.length x)) → AOps LL P ops rest (putF fr o.dst d) (s ++ x) fl fr' s' → AOps LL P ops (o :: rest) fr s (3 :: fl) fr' s'
  | eff (o : Oper) (rest : List Oper) (fr : Fr) (s : List AObj) (d : AV) (s1 : List AObj) (fl : List Nat) (fr' : Fr) (s' : List AObj) : gd ops fr o = some true → AOp LL P o fr s d s1 → AOps LL P ops rest (putF fr o.dst d) s1 fl fr' s' → AOps LL P ops (o :: rest) fr s (2 :: fl) fr' s'

/-- What the end of a walk is told. -/
def Post (LL : Nat → Code → CC → Prop) (B N : Nat) (D : List Deferred) (k : Cfg) (w : World) (Q : Exit → Fr → List AObj → Prop) (e : Exit) (a : Act) (w' : World) : Prop :=
  ∃ fr s k', Q e fr s ∧ a.tmps.size = N ∧ a.defers = D ∧ Ext B k w k' w' ∧ FR k' w' a fr ∧ St LL B k' s w'

theorem RA.undf {k : Cfg} {w : World} : RA k w undef undefA := .d (RD.sc undef)

/-! ### Whatever order -/

/-- The text's walk, operation by operation. -/
structure Txt (LL : Nat → Code → CC → Prop) (P : Program) (ops : Array Oper) (frs : Nat → Fr) (ss : Nat → List AObj) (ds : Nat → AV) (wt : Nat → Bool) (fl : Nat → Nat) : Prop where
  guard : ∀ (i : Nat) (o : Oper), ops[i]? = some o → gd ops (frs i) o = some (wt i)
  next : ∀ (i : Nat) (o : Oper), ops[i]? = some o → frs (i + 1) = putF (frs i) o.dst (ds i)
  skip : ∀ (i : Nat) (o : Oper), ops[i]? = some o → wt i = false → ds i = undefA
  free : ∀ (i : Nat) (o : Oper), ops[i]? = some o → wt i = true → fl i = 0 → ∀ s, AOp LL P o (frs i) s (ds i) s
  step : ∀ (i : Nat) (o : Oper), ops[i]? = some o → wt i = true → AOp LL P o (frs i) (ss i) (ds i) (ss (i + 1))
  reads : ∀ (i : Nat) (o : Oper), ops[i]? = some o → wt i = true → fl i = 1 → ∀ s2, Agrees (ss i) s2 → AOp LL P o (frs i) s2 (ds i) s2
  readsAt : ∀ (b i : Nat) (o : Oper), ops[i]? = some o → wt i = true → fl i = 4 + 2 * b → ∀ s2, AgreesAt b (ss i) s2 → AOp LL P o (frs i) s2 (ds i) s2
  make : ∀ (i : Nat) (o : Oper), ops[i]? = some o → fl i = 3 → ∃ x, ss (i + 1) = ss i ++ x ∧ ∀ s2, Agrees (ss i) s2 → Holes s2 (ss i).length x.length → AOp LL P o (frs i) s2 (ds i) (fill s2 (ss i).length x)
  setAt : ∀ (b i : Nat), i < ops.size → fl i = 5 + 2 * b → SetAt b (ss i) (ss (i + 1))
  still : ∀ (i : Nat), i < ops.size → (isE (fl i) = false ∨ wt i = false) → ss (i + 1) = ss i
  off : ∀ (i : Nat), wt i = false → fl i = 0

theorem txt_of {LL : Nat → Code → CC → Prop} {P : Program} {ops : Array Oper} : ∀ {l : List Oper} {fr : Fr} {s : List AObj} {fl : List Nat} {fr' : Fr} {s' : List AObj}, AOps LL P ops l fr s fl fr' s' →
    ∃ (frs : Nat → Fr) (ss : Nat → List AObj) (ds : Nat → AV) (wt : Nat → Bool), frs 0 = fr ∧ ss 0 = s ∧ frs l.length = fr' ∧ ss l.length = s' ∧ fl.length = l.length ∧
      (∀ (i : Nat) (o : Oper), l[i]? = some o → gd ops (frs i) o = some (wt i) ∧ frs (i + 1) = putF (frs i) o.dst (ds i) ∧ (wt i = false → ds i = undefA) ∧ (wt i = true → fl.getD i 0 = 0 → ∀ s, AOp LL P o (frs i) s (ds i) s) ∧
        (wt i = true → AOp LL P o (frs i) (ss i) (ds i) (ss (i + 1))) ∧ ((isE (fl.getD i 0) = false ∨ wt i = false) → ss (i + 1) = ss i) ∧
        (wt i = true → fl.getD i 0 = 1 → ∀ s2, Agrees (ss i) s2 → AOp LL P o (frs i) s2 (ds i) s2) ∧ (fl.getD i 0 = 3 → ∃ x, ss (i + 1) = ss i ++ x ∧ ∀ s2, Agrees (ss i) s2 → Holes s2 (ss i).length x.length → AOp LL P o (frs i) s2 (ds i) (fill s2 (ss i).length x)) ∧
        (∀ b, wt i = true → fl.getD i 0 = 4 + 2 * b → ∀ s2, AgreesAt b (ss i) s2 → AOp LL P o (frs i) s2 (ds i) s2) ∧ (∀ b, fl.getD i 0 = 5 + 2 * b → SetAt b (ss i) (ss (i + 1)))) ∧ ∀ i, wt i = false → fl.getD i 0 = 0 := by
  intro l fr s fl fr' s' h
  induction h with
  | nil fr s => exact ⟨fun _ => fr, fun _ => s, fun _ => undefA, fun _ => true, rfl, rfl, rfl, rfl, rfl, by simp, by simp⟩
  | skip o rest fr s fl fr' s' hg _ ih =>
    obtain ⟨frs, ss, ds, wt, h1, h2, h3, h4, h5, h6, h7⟩ := ih
    refine ⟨fun i => if i = 0 then fr else frs (i - 1), fun i => if i = 0 then s else ss (i - 1), fun i => if i = 0 then undefA else ds (i - 1), fun i => if i = 0 then false else wt (i - 1), rfl, rfl, by simpa using h3, by simpa using h4, by simp [h5], fun i o' ho => ?_, fun i hi => ?_⟩
    · cases i with
      | zero =>
        simp at ho; subst ho
        refine ⟨hg, ?_, ?_, ?_, ?_, ?_, ?_, ?_, ?_, ?_⟩
        · show frs 0 = putF fr o.dst undefA
          exact h1
        · exact fun _ => rfl
        · exact fun h => (by cases h)
        · exact fun h => (by cases h)
        · exact fun _ => (show ss 0 = s from h2)
        · exact fun h => (by cases h)
        · exact fun h => (by cases h)
        · exact fun _ h => (by cases h)
        · exact fun b h => (by have h' : (0 : Nat) = 5 + 2 * b := h; omega)
      | succ i => simpa using h6 i o' (by simpa using ho)
    · cases i with
      | zero => rfl
      | succ i => simpa using h7 i (by simpa using hi)
  | free o rest fr s d fl fr' s' hg ho' _ ih =>
    obtain ⟨frs, ss, ds, wt, h1, h2, h3, h4, h5, h6, h7⟩ := ih
    refine ⟨fun i => if i = 0 then fr else frs (i - 1), fun i => if i = 0 then s else ss (i - 1), fun i => if i = 0 then d else ds (i - 1), fun i => if i = 0 then true else wt (i - 1), rfl, rfl, by simpa using h3, by simpa using h4, by simp [h5], fun i o' ho => ?_, fun i hi => ?_⟩
    · cases i with
      | zero =>
        simp at ho; subst ho
        refine ⟨hg, ?_, ?_, ?_, ?_, ?_, ?_, ?_, ?_, ?_⟩
        · show frs 0 = putF fr o.dst d
          exact h1
        · exact fun h => (by cases h)
        · exact fun _ _ => ho'
        · intro _; show AOp LL P o fr s d (ss 0); rw [h2]; exact ho' s
        · exact fun _ => (show ss 0 = s from h2)
        · exact fun _ h => (by cases h)
        · exact fun h => (by cases h)
        · exact fun b _ h => (by have h' : (0 : Nat) = 4 + 2 * b := h; omega)
        · exact fun b h => (by have h' : (0 : Nat) = 5 + 2 * b := h; omega)
      | succ i => simpa using h6 i o' (by simpa using ho)
    · cases i with
      | zero => simp at hi
      | succ i => simpa using h7 i (by simpa using hi)
  | reads o rest fr s d fl fr' s' hg ho' _ ih =>
    obtain ⟨frs, ss, ds, wt, h1, h2, h3, h4, h5, h6, h7⟩ := ih
    refine ⟨fun i => if i = 0 then fr else frs (i - 1), fun i => if i = 0 then s else ss (i - 1), fun i => if i = 0 then d else ds (i - 1), fun i => if i = 0 then true else wt (i - 1), rfl, rfl, by simpa using h3, by simpa using h4, by simp [h5], fun i o' ho => ?_, fun i hi => ?_⟩
    · cases i with
      | zero =>
        simp at ho; subst ho
        refine ⟨hg, ?_, ?_, ?_, ?_, ?_, ?_, ?_, ?_, ?_⟩
        · show frs 0 = putF fr o.dst d
          exact h1
        · exact fun h => (by cases h)
        · exact fun _ h => (by cases h)
        · intro _; show AOp LL P o fr s d (ss 0); rw [h2]; exact ho' s (Agrees.refl s)
        · exact fun _ => (show ss 0 = s from h2)
        · exact fun _ _ => ho'
        · exact fun h => (by cases h)
        · exact fun b _ h => (by have h' : (1 : Nat) = 4 + 2 * b := h; omega)
        · exact fun b h => (by have h' : (1 : Nat) = 5 + 2 * b := h; omega)
      | succ i => simpa using h6 i o' (by simpa using ho)
    · cases i with
      | zero => simp at hi
      | succ i => simpa using h7 i (by simpa using hi)
  | readsAt c o rest fr s d fl fr' s' hg ho' _ ih =>
    obtain ⟨frs, ss, ds, wt, h1, h2, h3, h4, h5, h6, h7⟩ := ih
    refine ⟨fun i => if i = 0 then fr else frs (i - 1), fun i => if i = 0 then s else ss (i - 1), fun i => if i = 0 then d else ds (i - 1), fun i => if i = 0 then true else wt (i - 1), rfl, rfl, by simpa using h3, by simpa using h4, by simp [h5], fun i o' ho => ?_, fun i hi => ?_⟩
    · cases i with
      | zero =>
        simp at ho; subst ho
        refine ⟨hg, ?_, ?_, ?_, ?_, ?_, ?_, ?_, ?_, ?_⟩
        · show frs 0 = putF fr o.dst d
          exact h1
        · exact fun h => (by cases h)
        · exact fun _ h => (by have h' : 4 + 2 * c = 0 := h; omega)
        · intro _; show AOp LL P o fr s d (ss 0); rw [h2]; exact ho' s (AgreesAt.refl c s)
        · exact fun _ => (show ss 0 = s from h2)
        · exact fun _ h => (by have h' : 4 + 2 * c = 1 := h; omega)
        · exact fun h => (by have h' : 4 + 2 * c = 3 := h; omega)
        · intro b _ h
          have h' : 4 + 2 * c = 4 + 2 * b := h
          obtain rfl : c = b := by omega
          exact ho'
        · exact fun b h => (by have h' : 4 + 2 * c = 5 + 2 * b := h; omega)
      | succ i => simpa using h6 i o' (by simpa using ho)
    · cases i with
      | zero => simp at hi
      | succ i => simpa using h7 i (by simpa using hi)
  | effAt c o rest fr s d s1 fl fr' s' hg ho' hset _ ih =>
    obtain ⟨frs, ss, ds, wt, h1, h2, h3, h4, h5, h6, h7⟩ := ih
    refine ⟨fun i => if i = 0 then fr else frs (i - 1), fun i => if i = 0 then s else ss (i - 1), fun i => if i = 0 then d else ds (i - 1), fun i => if i = 0 then true else wt (i - 1), rfl, rfl, by simpa using h3, by simpa using h4, by simp [h5], fun i o' ho => ?_, fun i hi => ?_⟩
    · cases i with
      | zero =>
        simp at ho; subst ho
        refine ⟨hg, ?_, ?_, ?_, ?_, ?_, ?_, ?_, ?_, ?_⟩
        · show frs 0 = putF fr o.dst d
          exact h1
        · exact fun h => (by cases h)
        · exact fun _ h => (by have h' : 5 + 2 * c = 0 := h; omega)
        · intro _; show AOp LL P o fr s d (ss 0); rw [h2]; exact ho'
        · intro h
          exfalso
          rcases h with h | h
          · have h' : isE (5 + 2 * c) = false := h
            unfold isE at h'
            simp at h'
          · cases h
        · exact fun _ h => (by have h' : 5 + 2 * c = 1 := h; omega)
        · exact fun h => (by have h' : 5 + 2 * c = 3 := h; omega)
        · exact fun b _ h => (by have h' : 5 + 2 * c = 4 + 2 * b := h; omega)
        · intro b h
          have h' : 5 + 2 * c = 5 + 2 * b := h
          obtain rfl : c = b := by omega
          show SetAt c s (ss 0)
          rw [h2]; exact hset
      | succ i => simpa using h6 i o' (by simpa using ho)
    · cases i with
      | zero => simp at hi
      | succ i => simpa using h7 i (by simpa using hi)
  | make o rest fr s d x fl fr' s' hg ho' _ ih =>
    obtain ⟨frs, ss, ds, wt, h1, h2, h3, h4, h5, h6, h7⟩ := ih
    refine ⟨fun i => if i = 0 then fr else frs (i - 1), fun i => if i = 0 then s else ss (i - 1), fun i => if i = 0 then d else ds (i - 1), fun i => if i = 0 then true else wt (i - 1), rfl, rfl, by simpa using h3, by simpa using h4, by simp [h5], fun i o' ho => ?_, fun i hi => ?_⟩
    · cases i with
      | zero =>
        simp at ho; subst ho
        refine ⟨hg, ?_, ?_, ?_, ?_, ?_, ?_, ?_, ?_, ?_⟩
        · show frs 0 = putF fr o.dst d
          exact h1
        · exact fun h => (by cases h)
        · exact fun _ h => (by cases h)
        · intro _; show AOp LL P o fr s d (ss 0); rw [h2, ← fill_end]; exact ho' s (Agrees.refl s) (Holes.end' s _)
        · exact fun h => (by rcases h with h | h <;> cases h)
        · exact fun _ h => (by cases h)
        · exact fun _ => ⟨x, h2, ho'⟩
        · exact fun b _ h => (by have h' : (3 : Nat) = 4 + 2 * b := h; omega)
        · exact fun b h => (by have h' : (3 : Nat) = 5 + 2 * b := h; omega)
      | succ i => simpa using h6 i o' (by simpa using ho)
    · cases i with
      | zero => simp at hi
      | succ i => simpa using h7 i (by simpa using hi)
  | eff o rest fr s d s1 fl fr' s' hg ho' _ ih =>
    obtain ⟨frs, ss, ds, wt, h1, h2, h3, h4, h5, h6, h7⟩ := ih
    refine ⟨fun i => if i = 0 then fr else frs (i - 1), fun i => if i = 0 then s else ss (i - 1), fun i => if i = 0 then d else ds (i - 1), fun i => if i = 0 then true else wt (i - 1), rfl, rfl, by simpa using h3, by simpa using h4, by simp [h5], fun i o' ho => ?_, fun i hi => ?_⟩
    · cases i with
      | zero =>
        simp at ho; subst ho
        refine ⟨hg, ?_, ?_, ?_, ?_, ?_, ?_, ?_, ?_, ?_⟩
        · show frs 0 = putF fr o.dst d
          exact h1
        · exact fun h => (by cases h)
        · exact fun _ h => (by cases h)
        · intro _; show AOp LL P o fr s d (ss 0); rw [h2]; exact ho'
        · exact fun h => (by rcases h with h | h <;> cases h)
        · exact fun _ h => (by cases h)
        · exact fun h => (by cases h)
        · exact fun b _ h => (by have h' : (2 : Nat) = 4 + 2 * b := h; omega)
        · exact fun b h => (by have h' : (2 : Nat) = 5 + 2 * b := h; omega)
      | succ i => simpa using h6 i o' (by simpa using ho)
    · cases i with
      | zero => simp at hi
      | succ i => simpa using h7 i (by simpa using hi)
/-- Operation i is ahead of operation j in every order. -/
def anc (bf : Array Nat) (i j : Nat) : Bool := (bf.getD j 0).testBit i

def tmpsOf (o : Oper) : List Nat := o.op.operands.toList.filterMap fun | .tmp t => some t | _ => none
def readsOf (ops : Array Oper) (o : Oper) : List Nat := tmpsOf o ++ (gslot ops o).toList

/-- Two operations touch one slot, one of them writing. -/
def clash (ops : Array Oper) (x y : Oper) : Bool :=
  (match x.dst with | some t => (readsOf ops y).contains t || y.dst == some t | none => false) || (match y.dst with | some t => (readsOf ops x).contains t | none => false)

/-- Two that touch own blocks and have to wait for one another. -/
def conf (a b : Nat) : Bool := (isE a && isE b && !(a == 3 && b == 3)) || (a == 2 && isRd b) || (isRd a && b == 2) || (a == 1 && isW b) || (isW a && b == 1) || (decide (4 ≤ a) && decide (4 ≤ b) && a / 2 == b / 2 && a % 2 != b % 2)
theorem isW_E {a : Nat} (h : isW a = true) : isE a = true ∧ (a == 3) = false := by
  unfold isW isE at *
  simp only [Bool.or_eq_true, Bool.and_eq_true, beq_iff_eq, decide_eq_true_eq, beq_eq_false_iff_ne] at h ⊢
  omega
theorem isE_W {a : Nat} (h : isE a = true) (h3 : a ≠ 3) : isW a = true := by
  rcases isE_cases h with e | e | ⟨b, e⟩
  · subst e; rfl
  · exact absurd e h3
  · subst e; unfold isW; simp
theorem conf_EW {a b : Nat} (ha : isE a = true) (hb : isW b = true) : conf a b = true := by unfold conf; obtain ⟨h1, h2⟩ := isW_E hb; rw [ha, h1, h2]; simp
theorem conf_WE {a b : Nat} (ha : isW a = true) (hb : isE b = true) : conf a b = true := by unfold conf; obtain ⟨h1, h2⟩ := isW_E ha; rw [hb, h1, h2]; simp

def ordB (ops : Array Oper) (fl : List Nat) : Bool :=
  let bf := Region.before ops
  (List.range ops.size).all fun j => match ops[j]? with
    | none => true
    | some oj => oj.after.all (fun e => !Region.binds .any e || decide (e.on < j)) &&
      (List.range ops.size).all fun i =>
        (!anc bf i j || oj.after.any fun e => Region.binds .any e && (e.on == i || anc bf i e.on)) &&
        match ops[i]? with
        | none => true
        | some oi => !decide (i < j) || anc bf i j || (!clash ops oi oj && !conf (fl.getD i 0) (fl.getD j 0))

structure OrdOk (ops : Array Oper) (an : Nat → Nat → Bool) (fl : Nat → Nat) : Prop where
  back : ∀ (j : Nat) (o : Oper), ops[j]? = some o → ∀ e ∈ o.after, Region.binds .any e = true → e.on < j
  up : ∀ (i j : Nat) (o : Oper), ops[j]? = some o → i < ops.size → an i j = true → ∃ e ∈ o.after, Region.binds .any e = true ∧ (e.on = i ∨ an i e.on = true)
  names : ∀ (i j : Nat) (oi oj : Oper), i < j → ops[i]? = some oi → ops[j]? = some oj → clash ops oi oj = true → an i j = true
  flags : ∀ (i j : Nat), i < j → j < ops.size → conf (fl i) (fl j) = true → an i j = true

theorem ordOk_of {ops : Array Oper} {fl : List Nat} (h : ordB ops fl = true) : OrdOk ops (anc (Region.before ops)) (fun i => fl.getD i 0) := by
  unfold ordB at h
  simp only [List.all_eq_true, List.mem_range] at h
  have hlt : ∀ {j : Nat} {o : Oper}, ops[j]? = some o → j < ops.size := fun ho => (Array.getElem?_eq_some_iff.1 ho).1
  refine ⟨fun j o ho e he hb => ?_, fun i j o ho hi ha => ?_, fun i j oi oj hij hoi hoj hc => ?_, fun i j hij hj hf => ?_⟩
  · have := h j (hlt ho)
    simp only [ho, Bool.and_eq_true] at this
    have := Array.all_eq_true_iff_forall_mem.1 this.1 e he
    simpa [hb] using this
  · have := h j (hlt ho)
    simp only [ho, Bool.and_eq_true, List.all_eq_true, List.mem_range] at this
    have h2 := (this.2 i hi).1
    rw [ha] at h2
    simp only [Bool.not_true, Bool.false_or] at h2
    obtain ⟨e, he, hb⟩ := Array.any_eq_true'.1 h2
    simp only [Bool.and_eq_true, Bool.or_eq_true, beq_iff_eq] at hb
    exact ⟨e, he, hb.1, hb.2⟩
  · have := h j (hlt hoj)
    simp only [hoj, Bool.and_eq_true, List.all_eq_true, List.mem_range] at this
    have h2 := (this.2 i (hlt hoi)).2
    simp only [hoi, Bool.or_eq_true, Bool.not_eq_true', decide_eq_false_iff_not, Bool.and_eq_true, hc] at h2
    rcases h2 with (h2 | h2) | h2
    · exact absurd hij h2
    · exact h2
    · exact absurd h2.1 (by simp)
  · have hoj : ops[j]? = some ops[j] := Array.getElem?_eq_getElem hj
    have hoi : ops[i]? = some ops[i] := Array.getElem?_eq_getElem (by omega)
    have := h j hj
    simp only [hoj, Bool.and_eq_true, List.all_eq_true, List.mem_range] at this
    have h2 := (this.2 i (by omega)).2
    simp only [hoi, Bool.or_eq_true, Bool.not_eq_true', decide_eq_false_iff_not, Bool.and_eq_true] at h2
    rcases h2 with (h2 | h2) | h2
    · exact absurd hij h2
    · exact h2
    · rw [hf] at h2; cases h2.2

section
variable {LL : Nat → Code → CC → Prop} {D : List Deferred} {P : Program} {ops : Array Oper} {frs : Nat → Fr} {ss : Nat → List AObj} {ds : Nat → AV} {wt : Nat → Bool} {fl : Nat → Nat} {an : Nat → Nat → Bool}

def dstOf (ops : Array Oper) (i : Nat) : Option Nat := (ops[i]?).bind (·.dst)
def valS (ops : Array Oper) (ds : Nat → AV) (fr0 : Fr) (L : Array Bool) (t : Nat) : Nat → Option AV
  | 0 => look fr0 t
  | i + 1 => if L.getD i false = true ∧ dstOf ops i = some t then some (ds i) else valS ops ds fr0 L t i
def valT (ops : Array Oper) (ds : Nat → AV) (fr0 : Fr) (t : Nat) : Nat → Option AV
  | 0 => look fr0 t
  | i + 1 => if dstOf ops i = some t then some (ds i) else valT ops ds fr0 t i

theorem look_putF (fr : Fr) (dst : Option Nat) (x : AV) (t : Nat) : look (putF fr dst x) t = if dst = some t then some x else look fr t := by
  cases dst with
  | none => simp [putF]
  | some d => simp [putF, look]

theorem look_frs (h : Txt LL P ops frs ss ds wt fl) (t : Nat) : ∀ j, j ≤ ops.size → look (frs j) t = valT ops ds (frs 0) t j
  | 0, _ => rfl
  | j + 1, hj => by
    have ho : ops[j]? = some ops[j] := Array.getElem?_eq_getElem (by omega)
    rw [h.next j _ ho, look_putF, valT, look_frs h t j (by omega)]
    unfold dstOf
    rw [ho]
    rfl

theorem valS_drop (ds : Nat → AV) (fr0 : Fr) (L : Array Bool) (t j : Nat) : ∀ m, j ≤ m → (∀ i, j ≤ i → i < m → dstOf ops i = some t → L.getD i false = false) → valS ops ds fr0 L t m = valS ops ds fr0 L t j
  | 0, hj, _ => by obtain rfl : j = 0 := by omega
                   rfl
  | m + 1, hj, h => by
    by_cases e : j = m + 1
    · subst e; rfl
    · rw [valS, if_neg, valS_drop ds fr0 L t j m (by omega) fun i h1 h2 => h i h1 (by omega)]
      rintro ⟨h1, h2⟩
      have := h m (by omega) (by omega) h2
      rw [this] at h1; cases h1

theorem valS_all (ds : Nat → AV) (fr0 : Fr) (L : Array Bool) (t : Nat) : ∀ j, (∀ i, i < j → dstOf ops i = some t → L.getD i false = true) → valS ops ds fr0 L t j = valT ops ds fr0 t j
  | 0, _ => rfl
  | j + 1, h => by
    rw [valS, valT, valS_all ds fr0 L t j fun i hi => h i (by omega)]
    by_cases e : dstOf ops j = some t
    · rw [if_pos ⟨h j (by omega) e, e⟩, if_pos e]
    · rw [if_neg fun hh => e hh.2, if_neg e]

theorem valS_set (ds : Nat → AV) (fr0 : Fr) (L : Array Bool) (t j : Nat) (hj : j < L.size) : ∀ m,
    ((j < m ∧ dstOf ops j = some t ∧ (∀ i, j < i → i < m → dstOf ops i = some t → L.getD i false = false)) → valS ops ds fr0 (L.setIfInBounds j true) t m = some (ds j)) ∧
    (¬ (j < m ∧ dstOf ops j = some t ∧ (∀ i, j < i → i < m → dstOf ops i = some t → L.getD i false = false)) → valS ops ds fr0 (L.setIfInBounds j true) t m = valS ops ds fr0 L t m)
  | 0 => ⟨fun h => by omega, fun _ => rfl⟩
  | m + 1 => by
    have hget : (L.setIfInBounds j true).getD m false = if m = j then true else L.getD m false := by
      by_cases e : m = j
      · subst e; simp [hj]
      · rw [if_neg e]; exact getD_set_ne false (fun h => e h.symm)
    obtain ⟨ih1, ih2⟩ := valS_set ds fr0 L t j hj m
    refine ⟨fun ⟨h1, h2, h3⟩ => ?_, fun hn => ?_⟩
    · by_cases e : m = j
      · subst e
        simp only [valS]
        rw [hget, if_pos rfl, if_pos ⟨rfl, h2⟩]
      · have h4 := ih1 ⟨by omega, h2, fun i h4 h5 => h3 i h4 (by omega)⟩
        simp only [valS]
        rw [hget, if_neg e, if_neg, h4]
        rintro ⟨h5, h6⟩
        have := h3 m (by omega) (by omega) h6
        rw [h5] at this; cases this
    · simp only [valS]
      rw [hget]
      by_cases e : m = j
      · subst e
        have hmt : dstOf ops m ≠ some t := fun h => hn ⟨by omega, h, fun i h1 h2 => by omega⟩
        rw [if_neg fun h => hmt h.2, if_neg fun h => hmt h.2]
        exact ih2 fun h => by omega
      · rw [if_neg e]
        by_cases hc : L.getD m false = true ∧ dstOf ops m = some t
        · rw [if_pos hc, if_pos hc]
        · rw [if_neg hc, if_neg hc]
          refine ih2 fun ⟨h1, h2, h3⟩ => hn ⟨by omega, h2, fun i h4 h5 h6 => ?_⟩
          by_cases him : i = m
          · subst him
            cases hL : L.getD i false with
            | false => rfl
            | true => exact absurd ⟨hL, h6⟩ hc
          · exact h3 i h4 (by omega) h6

/-- The store at place m2 of the text, with holes where operations from m1 on are not done that make blocks. -/
structure Hol (ss : Nat → List AObj) (fl : Nat → Nat) (L : Array Bool) (m1 m2 : Nat) (s' : List AObj) : Prop where
  len : s'.length = (ss m2).length
  mid : ∀ p : Nat, s'[p]? = (ss m2)[p]? ∨ (s'[p]? = some .hole ∧ ∃ i, m1 ≤ i ∧ i < m2 ∧ fl i = 3 ∧ L.getD i false = false ∧ (ss i).length ≤ p ∧ p < (ss (i + 1)).length)
  un : ∀ i, m1 ≤ i → i < m2 → fl i = 3 → L.getD i false = false → ∀ p : Nat, (ss i).length ≤ p → p < (ss (i + 1)).length → s'[p]? = some .hole
theorem Hol.refl (ss : Nat → List AObj) (fl : Nat → Nat) (L : Array Bool) (m : Nat) : Hol ss fl L m m (ss m) := ⟨rfl, fun _ => .inl rfl, fun i h1 h2 => by omega⟩
theorem Hol.congr {ss : Nat → List AObj} {fl : Nat → Nat} {L L' : Array Bool} {m1 m2 : Nat} {s' : List AObj} (h : Hol ss fl L m1 m2 s') (hL : ∀ i, fl i = 3 → L'.getD i false = L.getD i false) : Hol ss fl L' m1 m2 s' :=
  ⟨h.len, fun p => by
    rcases h.mid p with h1 | ⟨h1, i, h2, h3, h4, h5, h6⟩
    · exact .inl h1
    · exact .inr ⟨h1, i, h2, h3, h4, by rw [hL i h4]; exact h5, h6⟩, fun i h1 h2 h3 h4 => h.un i h1 h2 h3 (by rw [← hL i h3]; exact h4)⟩
/-- What is done of the effects is a first part of the text; makes behind it may be done or not. -/
def Stored (LL : Nat → Code → CC → Prop) (ops : Array Oper) (ss : Nat → List AObj) (fl : Nat → Nat) (B : Nat) (L : Array Bool) (k : Cfg) (w : World) : Prop :=
  ∃ m1 m2 s', m1 ≤ m2 ∧ m2 ≤ ops.size ∧ (∀ i, i < m1 → isE (fl i) = true → L.getD i false = true) ∧ (∀ i, m2 ≤ i → i < ops.size → isE (fl i) = true → L.getD i false = false) ∧
    (∀ i, m1 ≤ i → i < m2 → isW (fl i) = false) ∧ Hol ss fl L m1 m2 s' ∧ St LL B k s' w

/-- What holds when the operations of L are done. -/
structure Done (LL : Nat → Code → CC → Prop) (D : List Deferred) (ops : Array Oper) (ds : Nat → AV) (fr0 : Fr) (ss : Nat → List AObj) (fl : Nat → Nat) (an : Nat → Nat → Bool) (B N : Nat) (k0 : Cfg) (w0 : World) (L : Array Bool) (k : Cfg) (a : Act) (w : World) : Prop where
  size : L.size = ops.size
  closed : ∀ j, L.getD j false = true → ∀ i, i < ops.size → an i j = true → L.getD i false = true
  tmps : a.tmps.size = N
  defers : a.defers = D
  ext : Ext B k0 w0 k w
  slots : ∀ t x, valS ops ds fr0 L t ops.size = some x → RA k w (a.tmps.getD t undef) x
  store : Stored LL ops ss fl B L k w

theorem ss_make (h : Txt LL P ops frs ss ds wt fl) {i : Nat} (hi : i < ops.size) (h3 : fl i = 3) : ∃ x, ss (i + 1) = ss i ++ x := by
  obtain ⟨x, hx, _⟩ := h.make i _ (Array.getElem?_eq_getElem hi) h3
  exact ⟨x, hx⟩
theorem ss_eq (h : Txt LL P ops frs ss ds wt fl) : ∀ (d m : Nat), m + d ≤ ops.size → (∀ i, m ≤ i → i < m + d → isE (fl i) = false) → ss (m + d) = ss m
  | 0, _, _, _ => rfl
  | d + 1, m, hm, hn => by
    rw [← Nat.add_assoc, h.still (m + d) (by omega) (.inl (hn (m + d) (by omega) (by omega)))]
    exact ss_eq h d m (by omega) (fun i h1 h2 => hn i h1 (by omega))

theorem ss_ext (h : Txt LL P ops frs ss ds wt fl) : ∀ (d m : Nat), m + d ≤ ops.size → (∀ i, m ≤ i → i < m + d → isE (fl i) = false ∨ fl i = 3) → ∃ xs, ss (m + d) = ss m ++ xs
  | 0, _, _, _ => ⟨[], by simp⟩
  | d + 1, m, hm, hn => by
    obtain ⟨xs, hx⟩ := ss_ext h d m (by omega) (fun i h1 h2 => hn i h1 (by omega))
    rcases hn (m + d) (by omega) (by omega) with h4 | h4
    · exact ⟨xs, by rw [← Nat.add_assoc, h.still (m + d) (by omega) (.inl h4), hx]⟩
    · obtain ⟨x, h5⟩ := ss_make h (i := m + d) (by omega) h4
      exact ⟨xs ++ x, by rw [← Nat.add_assoc, h5, hx, List.append_assoc]⟩

theorem ss_at (h : Txt LL P ops frs ss ds wt fl) (b : Nat) : ∀ (d m : Nat), m + d ≤ ops.size → (∀ i, m ≤ i → i < m + d → isE (fl i) = false ∨ fl i = 3 ∨ ∃ c, c ≠ b ∧ fl i = 5 + 2 * c) → (ss m).length ≤ (ss (m + d)).length ∧ (b < (ss m).length → (ss (m + d))[b]? = (ss m)[b]?)
  | 0, _, _, _ => ⟨Nat.le_refl _, fun _ => rfl⟩
  | d + 1, m, hm, hn => by
    obtain ⟨h1, h2⟩ := ss_at h b d m (by omega) (fun i h1 h2 => hn i h1 (by omega))
    rw [← Nat.add_assoc]
    rcases hn (m + d) (by omega) (by omega) with h4 | h4 | ⟨c, hc, h4⟩
    · rw [h.still (m + d) (by omega) (.inl h4)]; exact ⟨h1, h2⟩
    · obtain ⟨x, h5⟩ := ss_make h (i := m + d) (by omega) h4
      rw [h5]
      refine ⟨by simp; omega, fun hb => ?_⟩
      rw [List.getElem?_append_left (by omega)]; exact h2 hb
    · obtain ⟨h5, h6⟩ := h.setAt c (m + d) (by omega) h4
      exact ⟨by omega, fun hb => (h6 b (fun e => hc e.symm)).trans (h2 hb)⟩

/-- From one place to another one the store grows, where nothing is written between. -/
theorem ss_grow (h : Txt LL P ops frs ss ds wt fl) {a b : Nat} (hab : a ≤ b) (hb : b ≤ ops.size) (hn : ∀ i, a ≤ i → i < b → isW (fl i) = false) : ∃ xs, ss b = ss a ++ xs := by
  obtain ⟨d, rfl⟩ : ∃ d, b = a + d := ⟨b - a, by omega⟩
  refine ss_ext h d a hb fun i h1 h2 => ?_
  cases hE : isE (fl i) with
  | false => exact .inl rfl
  | true =>
    right
    apply Classical.byContradiction
    intro h3
    have := isE_W hE h3
    rw [hn i h1 h2] at this; cases this
theorem ss_cover (h : Txt LL P ops frs ss ds wt fl) (p : Nat) : ∀ (d a : Nat), a + d ≤ ops.size → (∀ i, a ≤ i → i < a + d → isW (fl i) = false) → (ss a).length ≤ p → p < (ss (a + d)).length → ∃ i, a ≤ i ∧ i < a + d ∧ fl i = 3 ∧ (ss i).length ≤ p ∧ p < (ss (i + 1)).length
  | 0, a, _, _, h1, h2 => by rw [Nat.add_zero] at h2; omega
  | d + 1, a, hd, hn, h1, h2 => by
    by_cases h3 : p < (ss (a + d)).length
    · obtain ⟨i, g1, g2, g3⟩ := ss_cover h p d a (by omega) (fun i e1 e2 => hn i e1 (by omega)) h1 h3
      exact ⟨i, g1, by omega, g3⟩
    · refine ⟨a + d, by omega, by omega, ?_, by omega, h2⟩
      apply Classical.byContradiction
      intro h4
      have hE : isE (fl (a + d)) = false := by
        cases hE : isE (fl (a + d)) with
        | false => rfl
        | true => have := isE_W hE h4; rw [hn (a + d) (by omega) (by omega)] at this; cases this
      rw [← Nat.add_assoc, h.still (a + d) (by omega) (.inl hE)] at h2
      omega
/-- Told up to a later place: what is not made yet is a hole. -/
theorem Hol.grow (h : Txt LL P ops frs ss ds wt fl) {L : Array Bool} {m1 m2 m3 : Nat} {s' : List AObj} (hh : Hol ss fl L m1 m2 s') (h12 : m1 ≤ m2) (h23 : m2 ≤ m3) (h3 : m3 ≤ ops.size) (hn : ∀ i, m2 ≤ i → i < m3 → isW (fl i) = false) (hu : ∀ i, m2 ≤ i → i < m3 → fl i = 3 → L.getD i false = false) :
    Hol ss fl L m1 m3 (s' ++ List.replicate ((ss m3).length - (ss m2).length) .hole) := by
  obtain ⟨xs, hxs⟩ := ss_grow h h23 h3 hn
  have hl : (ss m3).length = (ss m2).length + xs.length := by rw [hxs, List.length_append]
  have hlen := hh.len
  have low : ∀ p, p < s'.length → (s' ++ List.replicate ((ss m3).length - (ss m2).length) AObj.hole)[p]? = s'[p]? := fun p hp => List.getElem?_append_left hp
  have high : ∀ p, s'.length ≤ p → p < (ss m3).length → (s' ++ List.replicate ((ss m3).length - (ss m2).length) AObj.hole)[p]? = some .hole := fun p h1 h2 => by
    rw [List.getElem?_append_right h1, List.getElem?_replicate, if_pos (by omega)]
  refine ⟨by simp; omega, fun p => ?_, fun i h1 h2 g3 g4 p g5 g6 => ?_⟩
  · by_cases hp : p < s'.length
    · rw [low p hp]
      rcases hh.mid p with e | ⟨e, i, g1, g2, g3⟩
      · left; rw [e, hxs, List.getElem?_append_left (by omega)]
      · exact .inr ⟨e, i, g1, by omega, g3⟩
    · by_cases hp2 : p < (ss m3).length
      · obtain ⟨d, hd⟩ : ∃ d, m3 = m2 + d := ⟨m3 - m2, by omega⟩
        obtain ⟨i, g1, g2, g3, g4⟩ := ss_cover h p d m2 (by omega) (fun i e1 e2 => hn i e1 (by omega)) (by omega) (by rw [← hd]; exact hp2)
        exact .inr ⟨high p (by omega) hp2, i, by omega, by omega, g3, hu i g1 (by omega) g3, g4⟩
      · left
        rw [List.getElem?_eq_none (by simp; omega), List.getElem?_eq_none (by omega)]
  · by_cases hi : i < m2
    · have hp := hh.un i h1 hi g3 g4 p g5 g6
      rw [low p (List.getElem?_eq_some_iff.1 hp).1]; exact hp
    · have e1 : (ss (i + 1)).length ≤ (ss m3).length := by
        obtain ⟨ys, hy⟩ := ss_grow h (a := i + 1) (b := m3) (by omega) h3 (fun q e1 e2 => hn q (by omega) e2)
        rw [hy, List.length_append]; omega
      have e2 : (ss m2).length ≤ (ss i).length := by
        obtain ⟨ys, hy⟩ := ss_grow h (a := m2) (b := i) (by omega) (by omega) (fun q e1 e2 => hn q e1 (by omega))
        rw [hy, List.length_append]; omega
      exact high p (by omega) (by omega)

theorem region_step {r : Option Nat} (hT : Txt LL P ops frs ss ds wt fl) (hO : OrdOk ops an fl) {B N : Nat} {k0 : Cfg} {w0 : World} (hN : ∀ o ∈ ops, ∀ d, o.dst = some d → d < N) (hnd : ∀ o ∈ ops, notDefer o = true)
    {L : Array Bool} {k : Cfg} {a : Act} {w : World} (hD : Done LL D ops ds (frs 0) ss fl an B N k0 w0 L k a w) {j : Nat} (hj : j ∈ Region.ready .any ops L) {Q : Exit → Act → World → Prop} {K : Act → World → Prop}
    (hK : ∀ k' a' w', Done LL D ops ds (frs 0) ss fl an B N k0 w0 (L.setIfInBounds j true) k' a' w' → K a' w') : wpOpIn (FW r) 0 P ops Q j K a w := by
  obtain ⟨hjun, oj, hoj, hall⟩ := mem_ready.1 hj
  have hjn : j < ops.size := (Array.getElem?_eq_some_iff.1 hoj).1
  have hjL : L.getD j false = false := by
    have : j < L.size := by rw [hD.size]; exact hjn
    simpa [this] using hjun
  have hanc : ∀ i, i < ops.size → an i j = true → L.getD i false = true := fun i hi ha => by
    obtain ⟨e, he, hb, h⟩ := hO.up i j oj hoj hi ha
    have h1 := hall e he hb
    rcases h with h | h
    · rw [← h]; exact h1
    · exact hD.closed _ h1 i hi h
  have hafter : ∀ i, i < ops.size → an j i = true → L.getD i false = false := fun i hi ha => by
    cases hL : L.getD i false with
    | false => rfl
    | true => have := hD.closed i hL j hjn ha; rw [hjL] at this; cases this
  have hdst : ∀ {i : Nat} {t : Nat}, dstOf ops i = some t → ∃ oi, ops[i]? = some oi ∧ oi.dst = some t := fun h => by
    unfold dstOf at h
    obtain ⟨oi, h1, h2⟩ := Option.bind_eq_some_iff.1 h
    exact ⟨oi, h1, h2⟩
  -- what is read holds what the text says
  have hval : ∀ t, t ∈ readsOf ops oj → valS ops ds (frs 0) L t ops.size = look (frs j) t := fun t ht => by
    rw [look_frs hT t j (by omega)]
    rw [valS_drop ds (frs 0) L t j ops.size (by omega) fun i h1 h2 h3 => ?_]
    · refine valS_all ds (frs 0) L t j fun i hi h3 => ?_
      obtain ⟨oi, h4, h5⟩ := hdst h3
      refine hanc i (by omega) (hO.names i j oi oj hi h4 hoj ?_)
      unfold clash
      rw [h5]
      simp [ht]
    · obtain ⟨oi, h4, h5⟩ := hdst h3
      by_cases hij : i = j
      · subst hij; exact hjL
      · refine hafter i h2 (hO.names j i oj oi (by omega) hoj h4 ?_)
        unfold clash
        rw [h5]
        simp [ht]
  have hslot : ∀ t x, t ∈ readsOf ops oj → look (frs j) t = some x → RA k w (a.tmps.getD t undef) x := fun t x ht hx => hD.slots t x (by rw [hval t ht]; exact hx)
  have hgd := hT.guard j oj hoj
  have hwant := gd_wanted hgd (k := k) (w := w) (a := a) fun t x hg hx => hslot t x (by unfold readsOf; simp [hg]) hx
  have hops : Ops k w a oj (frs j) := fun t x ht hx => hslot t x (by
    unfold readsOf tmpsOf
    refine List.mem_append_left _ (List.mem_filterMap.2 ⟨.tmp t, by simpa using ht, rfl⟩)) hx
  -- the memory behind it
  have hput : ∀ (v : Value) (k' : Cfg) (w' : World), RA k' w' v (ds j) → Ext B k w k' w' → Stored LL ops ss fl B (L.setIfInBounds j true) k' w' →
      K (a.put oj.dst v) w' := fun v k' w' hv he hs => by
    have hjs : j < L.size := by rw [hD.size]; exact hjn
    refine hK k' _ w' ⟨by simp [hD.size], fun i hi m hm ha => ?_, by rw [put_size, hD.tmps], by rw [put_defers', hD.defers], hD.ext.trans he, fun t x hx => ?_, hs⟩
    · by_cases hmj : m = j
      · subst hmj; simp [hjs]
      · rw [getD_set_ne false (Ne.symm hmj)]
        by_cases hij : i = j
        · subst hij; exact hanc m hm ha
        · rw [getD_set_ne false (Ne.symm hij)] at hi
          exact hD.closed i hi m hm ha
    · by_cases hd : dstOf ops j = some t
      · rw [(valS_set ds (frs 0) L t j hjs ops.size).1 ⟨hjn, hd, fun i h1 h2 h3 => ?_⟩] at hx
        · obtain rfl := Option.some.inj hx
          obtain ⟨o', h4, h5⟩ := hdst hd
          rw [hoj] at h4; obtain rfl := Option.some.inj h4
          rw [h5, getD_put _ _ _ (by rw [hD.tmps]; exact hN oj (Array.mem_of_getElem? hoj) t h5), if_pos rfl]
          exact hv
        · obtain ⟨oi, h4, h5⟩ := hdst h3
          obtain ⟨o', h6, h7⟩ := hdst hd
          rw [hoj] at h6; obtain rfl := Option.some.inj h6
          refine hafter i h2 (hO.names j i oj oi h1 hoj h4 ?_)
          unfold clash
          rw [h7, h5]
          simp
      · rw [(valS_set ds (frs 0) L t j hjs ops.size).2 fun h => hd h.2.1] at hx
        have h1 := (hD.slots t x hx).mono he.mono
        have : (a.put oj.dst v).tmps.getD t undef = a.tmps.getD t undef := by
          cases hdj : oj.dst with
          | none => rfl
          | some d =>
            rw [getD_put _ _ _ (by rw [hD.tmps]; exact hN oj (Array.mem_of_getElem? hoj) d hdj), if_neg]
            intro e; subst e
            exact hd (by unfold dstOf; rw [hoj]; exact hdj)
        rw [this]; exact h1
  have hsetj : ∀ i, isE (fl i) = true → isE (fl j) = false → (L.setIfInBounds j true).getD i false = L.getD i false := fun i h1 h2 => getD_set_ne false (fun e => by subst e; rw [h1] at h2; cases h2)
  obtain ⟨m1, m2, s', hm12, hm, hm1, hm2, hnoW, hol, hst⟩ := hD.store
  -- whoever conflicts with j is done exactly if he stands ahead of it
  have hbef : ∀ i, i < j → conf (fl i) (fl j) = true → L.getD i false = true := fun i h1 h2 => hanc i (by omega) (hO.flags i j h1 hjn h2)
  have haft : ∀ i, j < i → i < ops.size → conf (fl j) (fl i) = true → L.getD i false = false := fun i h1 h2 h3 => hafter i h2 (hO.flags j i h1 h2 h3)
  have noE : ∀ i, ¬ isE (fl i) = true → isE (fl i) = false := fun i h => by simpa using h
  have e3 : isE 3 = true := rfl
  have wdone : ∀ i, i < m2 → isW (fl i) = true → L.getD i false = true := fun i h1 h2 => by
    by_cases h3 : i < m1
    · exact hm1 i h3 (isW_E h2).1
    · rw [hnoW i (by omega) h1] at h2; cases h2
  have hsame : isW (fl j) = true → m2 ≤ j ∧ ss j = s' := fun h1 => by
    have hmj : m2 ≤ j := by
      apply Classical.byContradiction
      intro hlt
      have := wdone j (by omega) h1
      rw [hjL] at this; cases this
    refine ⟨hmj, ?_⟩
    obtain ⟨d, rfl⟩ : ∃ d, j = m2 + d := ⟨j - m2, by omega⟩
    rw [ss_eq hT d m2 (by omega) (fun i h2 h3 => noE i fun h4 => by
      have h5 := hm2 i h2 (by omega) h4
      have h7 := hbef i h3 (conf_EW h4 h1)
      rw [h5] at h7; cases h7)]
    refine List.ext_getElem? fun p => ?_
    rcases hol.mid p with e | ⟨_, i, g1, g2, g3, g4, _⟩
    · exact e.symm
    · have h7 := hbef i (by omega) (conf_EW (by rw [g3]; rfl) h1)
      rw [g4] at h7; cases h7
  -- what is read stands there, or there is a hole
  have near : ∀ p : Nat, p < s'.length → (ss m2)[p]? = (ss j)[p]? → s'[p]? = (ss j)[p]? ∨ s'[p]? = some .hole := fun p hp he => by
    rcases hol.mid p with e | ⟨e, _⟩
    · exact .inl (e.trans he)
    · exact .inr e
  have hagree : (∀ x, isW x = true → conf x (fl j) = true ∧ conf (fl j) x = true) → Agrees (ss j) s' := fun hc p hp1 hp2 => by
    refine near p hp2 ?_
    rw [hol.len] at hp2
    rcases Nat.le_total m2 j with hmj | hmj
    · obtain ⟨xs, hx⟩ := ss_grow hT hmj (by omega) (fun i h2 h3 => by
        cases hW : isW (fl i) with
        | false => rfl
        | true =>
          have h5 := hm2 i h2 (by omega) (isW_E hW).1
          have h7 := hbef i h3 (hc _ hW).1
          rw [h5] at h7; cases h7)
      rw [hx, List.getElem?_append_left hp2]
    · obtain ⟨xs, hx⟩ := ss_grow hT hmj hm (fun i h2 h3 => by
        cases hW : isW (fl i) with
        | false => rfl
        | true =>
          have h5 := wdone i h3 hW
          by_cases hij : i = j
          · subst hij; rw [hjL] at h5; cases h5
          · have h7 := haft i (by omega) (by omega) (hc _ hW).2
            rw [h7] at h5; cases h5)
      rw [hx, List.getElem?_append_left hp1]
  have hagreeAt : ∀ b, fl j = 4 + 2 * b → AgreesAt b (ss j) s' := fun b h1 hp1 hp2 => by
    refine near b hp2 ?_
    rw [hol.len] at hp2
    have hno : ∀ x, isE x = true → conf x (4 + 2 * b) = false → conf (4 + 2 * b) x = false → x = 3 ∨ ∃ c, c ≠ b ∧ x = 5 + 2 * c := fun x h h3 h4 => by
      rcases isE_cases h with e | e | ⟨c, e⟩
      · subst e
        exfalso
        have : isRd (4 + 2 * b) = true := by unfold isRd; simp
        unfold conf at h3; rw [this] at h3; simp at h3
      · exact .inl e
      · refine .inr ⟨c, fun hcb => ?_, e⟩
        subst e; subst hcb
        have : conf (5 + 2 * c) (4 + 2 * c) = true := by
          unfold conf
          simp only [Bool.or_eq_true, Bool.and_eq_true, decide_eq_true_eq, beq_iff_eq, bne_iff_ne]
          right; omega
        rw [this] at h3; cases h3
    have sym : ∀ x y, conf x y = conf y x := fun x y => by
      unfold conf
      have e1 : (x / 2 == y / 2) = (y / 2 == x / 2) := by rw [Bool.eq_iff_iff]; simp only [beq_iff_eq]; exact eq_comm
      have e2 : (x % 2 != y % 2) = (y % 2 != x % 2) := by rw [Bool.eq_iff_iff]; simp only [bne_iff_ne]; exact ne_comm
      rw [e1, e2, Bool.and_comm (isE x), Bool.and_comm (decide (4 ≤ x)), Bool.and_comm (isRd x), Bool.and_comm (isW x), Bool.and_comm (x == 2), Bool.and_comm (x == 1), Bool.and_comm (x == 3)]
      cases (isE y && isE x && !(y == 3 && x == 3)) <;> cases (isRd y && x == 2) <;> cases (y == 2 && isRd x) <;> cases (isW y && x == 1) <;> cases (y == 1 && isW x) <;> rfl
    rcases Nat.le_total m2 j with hmj | hmj
    · obtain ⟨d, rfl⟩ : ∃ d, j = m2 + d := ⟨j - m2, by omega⟩
      obtain ⟨g1, g2⟩ := ss_at hT b d m2 (by omega) (fun i h2 h3 => by
        by_cases hE : isE (fl i) = true
        · refine .inr (Classical.byContradiction fun h3' => ?_)
          have h5 := hm2 i h2 (by omega) hE
          have hc : conf (fl i) (fl (m2 + d)) = true := by
            cases hcc : conf (fl i) (fl (m2 + d)) with
            | true => rfl
            | false => rw [h1] at hcc; exact absurd (hno _ hE hcc (by rw [sym]; exact hcc)) h3'
          have h7 := hbef i h3 hc
          rw [h5] at h7; cases h7
        · exact .inl (noE i hE))
      exact (g2 hp2).symm
    · obtain ⟨d, hd⟩ : ∃ d, m2 = j + d := ⟨m2 - j, by omega⟩
      obtain ⟨g1, g2⟩ := ss_at hT b d j (by omega) (fun i h2 h3 => by
        by_cases hE : isE (fl i) = true
        · refine .inr (Classical.byContradiction fun h3' => ?_)
          have hW : isW (fl i) = true := isE_W hE fun e => h3' (.inl e)
          have h5 := wdone i (by omega) hW
          by_cases hij : i = j
          · subst hij; rw [hjL] at h5; cases h5
          · have hc : conf (fl j) (fl i) = true := by
              cases hcc : conf (fl j) (fl i) with
              | true => rfl
              | false => rw [h1] at hcc; exact absurd (hno _ hE (by rw [sym]; exact hcc) hcc) h3'
            have h7 := haft i (by omega) (by omega) hc
            rw [h7] at h5; cases h5
        · exact .inl (noE i hE))
      rw [hd]; exact g2 hp1
  unfold wpOpIn
  rw [hoj]
  dsimp only
  rw [hwant]
  have rest : isE (fl j) = false → ∀ (v : Value) (k' : Cfg) (w' : World), RA k' w' v (ds j) → Ext B k w k' w' → St LL B k' s' w' → K (a.put oj.dst v) w' := fun hn v k' w' hv he hs =>
    hput v k' w' hv he ⟨m1, m2, s', hm12, hm, fun i h1 h2 => by rw [hsetj i h2 hn]; exact hm1 i h1 h2, fun i h1 h2 h3 => by rw [hsetj i h3 hn]; exact hm2 i h1 h2 h3, hnoW, hol.congr fun i h3 => hsetj i (by rw [h3]; rfl) hn, hs⟩
  cases hw : wt j with
  | false =>
    rw [if_neg (by simp)]
    have hf := hT.off j hw
    rw [hT.skip j oj hoj hw] at rest
    refine ⟨fun f _ => FW_fn r f, ?_⟩
    exact rest (by rw [hf]; rfl) _ k w RA.undf (Ext.refl B k w) hst
  | true =>
    rw [if_pos rfl]
    have hndj := hnd oj (Array.mem_of_getElem? hoj)
    rcases code_cases (fl j) with h0 | h1' | ⟨b, h4'⟩ | h2'
    · refine Oper.wpIn_mono (fun a' w' hh => ?_) (hT.free j oj hoj hw h0 s' B k a w hops hst hndj r _)
      obtain ⟨v, rfl, k', hv, he, hs⟩ := hh
      exact rest (by rw [h0]; rfl) v k' w' hv he hs
    · refine Oper.wpIn_mono (fun a' w' hh => ?_) (hT.reads j oj hoj hw h1' s' (hagree fun x hx => by rw [h1']; unfold conf; rw [hx]; simp) B k a w hops hst hndj r _)
      obtain ⟨v, rfl, k', hv, he, hs⟩ := hh
      exact rest (by rw [h1']; rfl) v k' w' hv he hs
    · refine Oper.wpIn_mono (fun a' w' hh => ?_) (hT.readsAt b j oj hoj hw h4' s' (hagreeAt b h4') B k a w hops hst hndj r _)
      obtain ⟨v, rfl, k', hv, he, hs⟩ := hh
      refine rest ?_ v k' w' hv he hs
      rw [h4']
      have e2 : (4 + 2 * b == 2) = false := by simp; omega
      have e3 : (4 + 2 * b == 3) = false := by simp; omega
      have e5 : ((4 + 2 * b) % 2 == 1) = false := by simp
      unfold isE; rw [e2, e3, e5]; simp
    · by_cases h3' : fl j = 3
      · -- a block is made
        obtain ⟨x, hx, hfill⟩ := hT.make j oj hoj h3'
        have hjm1 : m1 ≤ j := by
          apply Classical.byContradiction
          intro hlt
          have := hm1 j (by omega) h2'
          rw [hjL] at this; cases this
        have hcW : ∀ x, isW x = true → conf x (fl j) = true ∧ conf (fl j) x = true := fun x hx => ⟨conf_WE hx h2', conf_EW h2' hx⟩
        have hag := hagree hcW
        -- told at least as far as j
        obtain ⟨m3, k3, s3, hjm3, hm3, hm23, hnoW3, hu3, hol3, hext3, hst3, hag3⟩ : ∃ m3 k3 s3, j < m3 ∧ m3 ≤ ops.size ∧ m2 ≤ m3 ∧ (∀ i, m1 ≤ i → i < m3 → isW (fl i) = false) ∧ (∀ i, m3 ≤ i → i < ops.size → isE (fl i) = true → L.getD i false = false) ∧
            Hol ss fl L m1 m3 s3 ∧ Ext B k w k3 w ∧ St LL B k3 s3 w ∧ Agrees (ss j) s3 := by
          by_cases hlt : j < m2
          · exact ⟨m2, k, s', hlt, hm, Nat.le_refl _, hnoW, hm2, hol, Ext.refl B k w, hst, hag⟩
          · have hn : ∀ i, m2 ≤ i → i < j + 1 → isW (fl i) = false := fun i h1 h2 => by
              cases hW : isW (fl i) with
              | false => rfl
              | true =>
                by_cases hij : i = j
                · subst hij; rw [h3'] at hW; cases hW
                · have h5 := hm2 i h1 (by omega) (isW_E hW).1
                  have h7 := hbef i (by omega) (hcW _ hW).1
                  rw [h5] at h7; cases h7
            obtain ⟨g1, g2⟩ := hst.holes ((ss (j + 1)).length - (ss m2).length)
            have hol4 := hol.grow hT hm12 (by omega : m2 ≤ j + 1) (by omega) hn fun i h1 h2 h3 => hm2 i h1 (by omega) (by rw [h3]; rfl)
            refine ⟨j + 1, _, _, by omega, by omega, by omega, fun i h1 h2 => ?_, fun i h1 h2 h3 => hm2 i (by omega) h2 h3, hol4, g1, g2, fun p hp1 hp2 => ?_⟩
            · by_cases hi : i < m2
              · exact hnoW i h1 hi
              · exact hn i (by omega) h2
            · by_cases hp : p < s'.length
              · rw [List.getElem?_append_left hp]; exact hag p hp1 hp
              · right
                rw [List.getElem?_append_right (by omega), List.getElem?_replicate, if_pos]
                rw [List.length_append, List.length_replicate] at hp2
                omega
        obtain ⟨ys, hys⟩ := ss_grow hT (a := j + 1) (b := m3) (by omega) hm3 (fun i h1 h2 => hnoW3 i (by omega) h2)
        have hlj : (ss (j + 1)).length = (ss j).length + x.length := by rw [hx, List.length_append]
        have hl3 : (ss m3).length = (ss (j + 1)).length + ys.length := by rw [hys, List.length_append]
        have hl3' := hol3.len
        have hroom : (ss j).length + x.length ≤ s3.length := by omega
        have hops3 : Ops k3 w a oj (frs j) := fun t x ht hx => (hops t x ht hx).mono hext3.mono
        refine Oper.wpIn_mono (fun a' w' hh => ?_) (hfill s3 hag3 (.inl ⟨hroom, fun p h1 h2 => hol3.un j hjm1 hjm3 h3' hjL p h1 (by omega)⟩) B k3 a w hops3 hst3 hndj r _)
        obtain ⟨v, rfl, k', hv, he, hs⟩ := hh
        refine hput v k' w' hv (hext3.trans he) ⟨m1, m3, _, by omega, hm3, fun i h1 h2 => ?_, fun i h1 h2 h3 => ?_, hnoW3, ?_, hs⟩
        · rw [getD_set_ne false (by omega)]; exact hm1 i h1 h2
        · rw [getD_set_ne false (by omega)]; exact hu3 i h1 h2 h3
        · have hg := fill_get x (l := s3) (n := (ss j).length) (by omega)
          have hne : ∀ i, i ≠ j → (L.setIfInBounds j true).getD i false = L.getD i false := fun i h => getD_set_ne false (Ne.symm h)
          have hjt : (L.setIfInBounds j true).getD j false = true := by
            have hjs : j < L.size := by rw [hD.size]; exact hjn
            simp [hjs]
          refine ⟨by rw [fill_length hroom]; exact hl3', fun p => ?_, fun i g1 g2 g3 g4 p g5 g6 => ?_⟩
          · rw [hg]
            have other : ¬ ((ss j).length ≤ p ∧ p < (ss j).length + x.length) → s3[p]? = (ss m3)[p]? ∨ (s3[p]? = some .hole ∧ ∃ i, m1 ≤ i ∧ i < m3 ∧ fl i = 3 ∧ (L.setIfInBounds j true).getD i false = false ∧ (ss i).length ≤ p ∧ p < (ss (i + 1)).length) := fun hp => by
              rcases hol3.mid p with e | ⟨e, i, g1, g2, g3, g4, g5, g6⟩
              · exact .inl e
              · have hij : i ≠ j := fun e => by subst e; omega
                exact .inr ⟨e, i, g1, g2, g3, by rw [hne i hij]; exact g4, g5, g6⟩
            by_cases h1 : p < (ss j).length
            · rw [if_pos h1]; exact other (by omega)
            · rw [if_neg h1]
              by_cases h2 : p < (ss j).length + x.length
              · rw [if_pos h2]
                left
                rw [hys, List.getElem?_append_left (by omega), hx, List.getElem?_append_right (by omega)]
              · rw [if_neg h2]; exact other (by omega)
          · have hij : i ≠ j := fun e => by subst e; rw [hjt] at g4; cases g4
            rw [hne i hij] at g4
            have h3 := hol3.un i g1 g2 g3 g4 p g5 g6
            rw [hg]
            rcases Nat.lt_or_gt_of_ne hij with hlt | hgt
            · obtain ⟨zs, hz⟩ := ss_grow hT (a := i + 1) (b := j) (by omega) (by omega) (fun q e1 e2 => hnoW3 q (by omega) (by omega))
              have : (ss j).length = (ss (i + 1)).length + zs.length := by rw [hz, List.length_append]
              rw [if_pos (by omega)]; exact h3
            · obtain ⟨zs, hz⟩ := ss_grow hT (a := j + 1) (b := i) (by omega) (by omega) (fun q e1 e2 => hnoW3 q (by omega) (by omega))
              have : (ss i).length = (ss (j + 1)).length + zs.length := by rw [hz, List.length_append]
              rw [if_neg (by omega), if_neg (by omega)]; exact h3
      · have hW := isE_W h2' h3'
        obtain ⟨hmj, hs0⟩ := hsame hW
        have hst' : St LL B k (ss j) w := by rw [hs0]; exact hst
        refine Oper.wpIn_mono (fun a' w' hh => ?_) (hT.step j oj hoj hw B k a w hops hst' hndj r _)
        obtain ⟨v, rfl, k', hv, he, hs⟩ := hh
        refine hput v k' w' hv he ⟨j + 1, j + 1, ss (j + 1), Nat.le_refl _, by omega, fun i h3 h4 => ?_, fun i h3 h4 h5 => ?_, fun i h1 h2 => by omega, Hol.refl .., hs⟩
        · by_cases hij : i = j
          · subst hij; simp [hD.size, hjn]
          · rw [getD_set_ne false (Ne.symm hij)]
            exact hbef i (by omega) (conf_EW h4 hW)
        · rw [getD_set_ne false (by omega)]
          exact haft i (by omega) h4 (conf_WE hW h5)

theorem ready_nil (hO : OrdOk ops an fl) {L : Array Bool} (hsz : L.size = ops.size) (h : Region.ready .any ops L = []) : ∀ i, i < ops.size → L.getD i false = true := by
  intro i
  induction i using Nat.strongRecOn with
  | _ i ih =>
    intro hi
    cases hL : L.getD i false with
    | true => rfl
    | false =>
      exfalso
      have : i ∈ Region.ready .any ops L := mem_ready.2 ⟨by have hs : i < L.size := by omega
                                                            simpa [hs] using hL, ops[i], Array.getElem?_eq_getElem hi, fun e he hb => by
        have := hO.back i ops[i] (Array.getElem?_eq_getElem hi) e he hb
        exact ih e.on this (by omega)⟩
      rw [h] at this; cases this

theorem region_any {r : Option Nat} (hT : Txt LL P ops frs ss ds wt fl) (hO : OrdOk ops an fl) {B N : Nat} {k0 : Cfg} {w0 : World} (hN : ∀ o ∈ ops, ∀ d, o.dst = some d → d < N) (hnd : ∀ o ∈ ops, notDefer o = true) {Q : Exit → Fr → List AObj → Prop} (hQ : Q .normal (frs ops.size) (ss ops.size)) :
    ∀ (f : Nat) (L : Array Bool) (U : List Nat) (k : Cfg) (a : Act) (w : World), U.length = f → (∀ i, i < ops.size → L.getD i false = false → i ∈ U) → Done LL D ops ds (frs 0) ss fl an B N k0 w0 L k a w → wpAnyIn (FW r) 0 P .any ops (Post LL B N D k0 w0 Q) f L a w := by
  have fin : ∀ (L : Array Bool) (k : Cfg) (a : Act) (w : World), (∀ i, i < ops.size → L.getD i false = true) → Done LL D ops ds (frs 0) ss fl an B N k0 w0 L k a w → Post LL B N D k0 w0 Q .normal a w := fun L k a w hall hD => by
    obtain ⟨m1, m2, s', hm12, hm, hm1, hm2, hnoW, hol, hst⟩ := hD.store
    refine ⟨_, _, k, hQ, hD.tmps, hD.defers, hD.ext, fun t x hx => hD.slots t x ?_, ?_⟩
    · rw [look_frs hT t _ (Nat.le_refl _)] at hx
      rw [valS_all ds (frs 0) L t ops.size fun i hi _ => hall i hi]
      exact hx
    · obtain ⟨d, hd⟩ : ∃ d, ops.size = m2 + d := ⟨ops.size - m2, by omega⟩
      have hs' : s' = ss m2 := List.ext_getElem? fun p => by
        rcases hol.mid p with e | ⟨_, i, g1, g2, g3, g4, _⟩
        · exact e
        · have := hall i (by omega)
          rw [g4] at this; cases this
      rw [hd, ss_eq hT d m2 (by omega) (fun i h1 h2 => ?_), ← hs']
      · exact hst
      · cases h3 : isE (fl i) with
        | false => rfl
        | true =>
          have h4 := hm2 i h1 (by omega) h3
          have h5 := hall i (by omega)
          rw [h4] at h5; cases h5
  intro f
  induction f with
  | zero =>
    intro L U k a w hU hun hD
    obtain rfl : U = [] := List.eq_nil_of_length_eq_zero hU
    have hall : ∀ i, i < ops.size → L.getD i false = true := fun i hi => by
      cases hL : L.getD i false with
      | true => rfl
      | false => exact absurd (hun i hi hL) (by simp)
    refine ⟨?_, fin L k a w hall hD⟩
    cases hr : Region.ready .any ops L with
    | nil => rfl
    | cons j l =>
      have hj : j ∈ Region.ready .any ops L := by rw [hr]; simp
      obtain ⟨hjun, oj, hoj, _⟩ := mem_ready.1 hj
      have hjn : j < ops.size := (Array.getElem?_eq_some_iff.1 hoj).1
      have hs : j < L.size := by rw [hD.size]; exact hjn
      have := hall j hjn
      simp [hs] at this hjun
      rw [this] at hjun; cases hjun
  | succ f ih =>
    intro L U k a w hU hun hD
    refine ⟨fun h => fin L k a w (ready_nil hO hD.size h) hD, fun j hj => ?_⟩
    obtain ⟨hjun, oj, hoj, _⟩ := mem_ready.1 hj
    have hjn : j < ops.size := (Array.getElem?_eq_some_iff.1 hoj).1
    have hs : j < L.size := by rw [hD.size]; exact hjn
    have hjL : L.getD j false = false := by simpa [hs] using hjun
    refine region_step hT hO hN hnd hD hj fun k' a' w' hD' => ih _ (U.erase j) k' a' w' ?_ (fun i hi hL => ?_) hD'
    · rw [List.length_erase_of_mem (hun j hjn hjL)]; omega
    · by_cases hij : i = j
      · subst hij; simp [hs] at hL
      · rw [getD_set_ne false (Ne.symm hij)] at hL
        exact (List.mem_erase_of_ne hij).2 (hun i hi hL)
end
end Go.Bb
