/-
  Part Bb4 of this claim's proof. Joined by merge.py from the texts of wip/tpl.
-/
import Derived.Test.YtclholnhkhjjaaaGreatBb3
import Derived.OrdersIn
set_option linter.unusedVariables false
set_option linter.unusedSimpArgs false
set_option linter.unnecessarySimpa false
namespace Go.Bb
open Go Go.RowKit Go.Ab
def putF (fr : Fr) : Option Nat → AV → Fr
 | none, _ => fr
 | some t, x => (t, x) :: fr
def undefA : AV := .d (.sc undef)
def FR (k : Cfg) (w : World) (a : Act) (fr : Fr) : Prop := ∀ t x, look fr t = some x → RA k w (a.tmps.getD t undef) x
theorem FR.mono {k k' : Cfg} {w w' : World} (he : Mono k w k' w') {a : Act} {fr : Fr} (h : FR k w a fr) : FR k' w' a fr := fun t x hx => (h t x hx).mono he
theorem getD_put (a : Act) (d : Nat) (v : Value) (hd : d < a.tmps.size) (t : Nat) : (a.put (some d) v).tmps.getD t undef = if d = t then v else a.tmps.getD t undef := by
 simp only [Act.put]
 by_cases h : d = t
 · subst h; simp [hd]
 · rw [if_neg h]; simp [Array.getElem?_setIfInBounds_ne h]
theorem FR.put {k : Cfg} {w : World} {a : Act} {fr : Fr} (h : FR k w a fr) {v : Value} {x : AV} (hx : RA k w v x) {dst : Option Nat} (hd : ∀ d, dst = some d → d < a.tmps.size) : FR k w (a.put dst v) (putF fr dst x) := by
 cases dst with
 | none => exact h
 | some d =>
   intro t y hy
   rw [getD_put a d v (hd d rfl) t]
   unfold putF look at hy
   split at hy
   · rename_i e; rw [if_pos e]; obtain rfl := Option.some.inj hy; exact hx
   · rename_i e; rw [if_neg e]; exact h t y hy
theorem put_size (a : Act) (dst : Option Nat) (v : Value) : (a.put dst v).tmps.size = a.tmps.size := by cases dst <;> simp [Act.put]
theorem put_defers' (a : Act) (dst : Option Nat) (v : Value) : (a.put dst v).defers = a.defers := by cases dst <;> rfl
def Ops (k : Cfg) (w : World) (a : Act) (o : Oper) (fr : Fr) : Prop := ∀ t x, Operand.tmp t ∈ o.op.operands → look fr t = some x → RA k w (a.tmps.getD t undef) x
theorem FR.ops {k : Cfg} {w : World} {a : Act} {fr : Fr} (h : FR k w a fr) (o : Oper) : Ops k w a o fr := fun t x _ hx => h t x hx
def FW : Option Nat → Fence
 | none => Fence.wide
 | some l => Fence.wide.inRound l
theorem FW_fn (r : Option Nat) (f : FuncId) : (FW r).fn f := by cases r <;> trivial
theorem FW_round (r : Option Nat) : (FW r).round = r := by cases r <;> rfl
theorem FW_depth (r : Option Nat) : (FW r).depth = none := by cases r <;> rfl
def notDefer (o : Oper) : Bool := match o.op with
 | .defer _ => false
 | _ => true
theorem semAt_plain {o : Oper} (h : notDefer o = true) (r : Option Nat) (ρ : Operand → Value) : o.semAt r ρ = execOp ρ o :=
 Oper.semAt_eq r ρ o fun c hc => by unfold notDefer at h; rw [hc] at h; cases h
def OpWp (P : Program) (o : Oper) (a : Act) (w : World) (Q : Value → World → Prop) : Prop :=
 notDefer o = true → ∀ (r : Option Nat) (QQ : Exit → Act → World → Prop), o.wpIn (FW r) 0 P a w (fun a' w' => ∃ v, a' = a.put o.dst v ∧ Q v w') QQ
def AOp (LL : Nat → Code → CC → Prop) (P : Program) (o : Oper) (fr : Fr) (s : List AObj) (d : AV) (s' : List AObj) : Prop :=
 ∀ (B : Nat) (k : Cfg) (a : Act) (w : World), Ops k w a o fr → St LL B k s w → OpWp P o a w fun v w' => ∃ k', RA k' w' v d ∧ Ext B k w k' w' ∧ St LL B k' s' w'
def gd (ops : Array Oper) (fr : Fr) (o : Oper) : Option Bool :=
 match o.guard with
 | none => some true
 | some (j, want) => match (ops[j]?).bind (·.dst) with
   | none => some false
   | some t => match look fr t with
     | some (.d (.sc (.bool b))) => some (b == want)
     | some (.d (.sc (.tuple _))) => some false
     | _ => none
def gslot (ops : Array Oper) (o : Oper) : Option Nat := match o.guard with
 | none => none
 | some (j, _) => (ops[j]?).bind (·.dst)
theorem gd_wanted {ops : Array Oper} {fr : Fr} {o : Oper} {b : Bool} (h : gd ops fr o = some b) {k : Cfg} {w : World} {a : Act} (hf : ∀ t x, gslot ops o = some t → look fr t = some x → RA k w (a.tmps.getD t undef) x) :
   Region.wanted o (yielded ops a.tmps) = b := by
 unfold gd at h
 unfold Region.wanted
 unfold gslot at hf
 split at h
 · rename_i hg; rw [hg]; exact Option.some.inj h
 · rename_i j want hg
   simp only [hg] at hf ⊢
   split at h
   · rename_i hn
     unfold yielded
     rw [hn]
     obtain rfl := Option.some.inj h
     rfl
   · rename_i t hn
     unfold yielded
     rw [hn]
     simp only [Option.bind_some]
     split at h
     · rename_i b' hl
       have := hf t _ hn hl
       have hv : RD k.I w (a.tmps.getD t undef) (.sc (.bool b')) := this.d_inv
       generalize hu : a.tmps.getD t undef = u at hv
       cases hv
       have : a.tmps[t]? = some (.bool b') := by
         rw [Array.getD_eq_getD_getElem?] at hu
         cases hx : a.tmps[t]? with
         | none => simp [hx, undef] at hu
         | some y => simp [hx] at hu; rw [hu]
       rw [this]
       obtain rfl := Option.some.inj h
       cases b' <;> cases want <;> rfl
     · rename_i vs hl
       have := hf t _ hn hl
       have hv : RD k.I w (a.tmps.getD t undef) (.sc (.tuple vs)) := this.d_inv
       generalize hu : a.tmps.getD t undef = u at hv
       cases hv
       have : a.tmps[t]? = none ∨ a.tmps[t]? = some (.tuple vs) := by
         rw [Array.getD_eq_getD_getElem?] at hu
         cases hx : a.tmps[t]? with
         | none => exact .inl rfl
         | some y => simp [hx] at hu; right; rw [hu]
       obtain rfl := Option.some.inj h
       rcases this with e | e <;> rw [e] <;> rfl
     · cases h
def Agrees (s s2 : List AObj) : Prop := ∀ id : Nat, id < s.length → id < s2.length → s2[id]? = s[id]?
theorem Agrees.refl (s : List AObj) : Agrees s s := fun _ _ _ => rfl
def AgreesAt (b : Nat) (s s2 : List AObj) : Prop := b < s.length → b < s2.length → s2[b]? = s[b]?
theorem AgreesAt.refl (b : Nat) (s : List AObj) : AgreesAt b s s := fun _ _ => rfl
theorem Agrees.at {s s2 : List AObj} (h : Agrees s s2) (b : Nat) : AgreesAt b s s2 := fun h1 h2 => h b h1 h2
def SetAt (b : Nat) (s s1 : List AObj) : Prop := s1.length = s.length ∧ ∀ id : Nat, id ≠ b → s1[id]? = s[id]?
def isE (x : Nat) : Bool := x == 2 || x == 3 || (decide (5 ≤ x) && x % 2 == 1)
def isW (x : Nat) : Bool := x == 2 || (decide (5 ≤ x) && x % 2 == 1)
def isRd (x : Nat) : Bool := x == 1 || (decide (4 ≤ x) && x % 2 == 0)
theorem isE_cases {x : Nat} (h : isE x = true) : x = 2 ∨ x = 3 ∨ ∃ b, x = 5 + 2 * b := by
 unfold isE at h
 simp only [Bool.or_eq_true, Bool.and_eq_true, beq_iff_eq, decide_eq_true_eq] at h
 rcases h with (h | h) | ⟨h, h2⟩
 · exact .inl h
 · exact .inr (.inl h)
 · exact .inr (.inr ⟨(x - 5) / 2, by omega⟩)
theorem code_cases (x : Nat) : x = 0 ∨ x = 1 ∨ (∃ b, x = 4 + 2 * b) ∨ isE x = true := by
 by_cases h : isE x = true
 · exact .inr (.inr (.inr h))
 · unfold isE at h
   simp only [Bool.or_eq_true, Bool.and_eq_true, beq_iff_eq, decide_eq_true_eq] at h
   by_cases h0 : x = 0
   · exact .inl h0
   · by_cases h1 : x = 1
     · exact .inr (.inl h1)
     · exact .inr (.inr (.inl ⟨(x - 4) / 2, by omega⟩))
inductive AOps (LL : Nat → Code → CC → Prop) (P : Program) (ops : Array Oper) : List Oper → Fr → List AObj → List Nat → Fr → List AObj → Prop
 | nil (fr : Fr) (s : List AObj) : AOps LL P ops [] fr s [] fr s
 | skip (o : Oper) (rest : List Oper) (fr : Fr) (s : List AObj) (fl : List Nat) (fr' : Fr) (s' : List AObj) : gd ops fr o = some false → AOps LL P ops rest (putF fr o.dst undefA) s fl fr' s' → AOps LL P ops (o :: rest) fr s (0 :: fl) fr' s'
 | free (o : Oper) (rest : List Oper) (fr : Fr) (s : List AObj) (d : AV) (fl : List Nat) (fr' : Fr) (s' : List AObj) : gd ops fr o = some true → (∀ s, AOp LL P o fr s d s) → AOps LL P ops rest (putF fr o.dst d) s fl fr' s' → AOps LL P ops (o :: rest) fr s (0 :: fl) fr' s'
 | reads (o : Oper) (rest : List Oper) (fr : Fr) (s : List AObj) (d : AV) (fl : List Nat) (fr' : Fr) (s' : List AObj) : gd ops fr o = some true → (∀ s2, Agrees s s2 → AOp LL P o fr s2 d s2) → AOps LL P ops rest (putF fr o.dst d) s fl fr' s' → AOps LL P ops (o :: rest) fr s (1 :: fl) fr' s'
 | readsAt (b : Nat) (o : Oper) (rest : List Oper) (fr : Fr) (s : List AObj) (d : AV) (fl : List Nat) (fr' : Fr) (s' : List AObj) : gd ops fr o = some true → (∀ s2, AgreesAt b s s2 → AOp LL P o fr s2 d s2) → AOps LL P ops rest (putF fr o.dst d) s fl fr' s' → AOps LL P ops (o :: rest) fr s ((4 + 2 * b) :: fl) fr' s'
 | effAt (b : Nat) (o : Oper) (rest : List Oper) (fr : Fr) (s : List AObj) (d : AV) (s1 : List AObj) (fl : List Nat) (fr' : Fr) (s' : List AObj) : gd ops fr o = some true → AOp LL P o fr s d s1 → SetAt b s s1 → AOps LL P ops rest (putF fr o.dst d) s1 fl fr' s' → AOps LL P ops (o :: rest) fr s ((5 + 2 * b) :: fl) fr' s'
 | make (o : Oper) (rest : List Oper) (fr : Fr) (s : List AObj) (d : AV) (x : List AObj) (fl : List Nat) (fr' : Fr) (s' : List AObj) : gd ops fr o = some true → AOp LL P o fr s d (s ++ x) → AOps LL P ops rest (putF fr o.dst d) (s ++ x) fl fr' s' → AOps LL P ops (o :: rest) fr s (3 :: fl) fr' s'
 | eff (o : Oper) (rest : List Oper) (fr : Fr) (s : List AObj) (d : AV) (s1 : List AObj) (fl : List Nat) (fr' : Fr) (s' : List AObj) : gd ops fr o = some true → AOp LL P o fr s d s1 → AOps LL P ops rest (putF fr o.dst d) s1 fl fr' s' → AOps LL P ops (o :: rest) fr s (2 :: fl) fr' s'
def Post (LL : Nat → Code → CC → Prop) (B N : Nat) (D : List Deferred) (k : Cfg) (w : World) (Q : Exit → Fr → List AObj → Prop) (e : Exit) (a : Act) (w' : World) : Prop :=
 ∃ fr s k', Q e fr s ∧ a.tmps.size = N ∧ a.defers = D ∧ Ext B k w k' w' ∧ FR k' w' a fr ∧ St LL B k' s w'
theorem RA.undf {k : Cfg} {w : World} : RA k w undef undefA := .d (RD.sc undef)
structure Txt (LL : Nat → Code → CC → Prop) (P : Program) (ops : Array Oper) (frs : Nat → Fr) (ss : Nat → List AObj) (ds : Nat → AV) (wt : Nat → Bool) (fl : Nat → Nat) : Prop where
 guard : ∀ (i : Nat) (o : Oper), ops[i]? = some o → gd ops (frs i) o = some (wt i)
 next : ∀ (i : Nat) (o : Oper), ops[i]? = some o → frs (i + 1) = putF (frs i) o.dst (ds i)
 skip : ∀ (i : Nat) (o : Oper), ops[i]? = some o → wt i = false → ds i = undefA
 free : ∀ (i : Nat) (o : Oper), ops[i]? = some o → wt i = true → fl i = 0 → ∀ s, AOp LL P o (frs i) s (ds i) s
 step : ∀ (i : Nat) (o : Oper), ops[i]? = some o → wt i = true → AOp LL P o (frs i) (ss i) (ds i) (ss (i + 1))
 reads : ∀ (i : Nat) (o : Oper), ops[i]? = some o → wt i = true → fl i = 1 → ∀ s2, Agrees (ss i) s2 → AOp LL P o (frs i) s2 (ds i) s2
 readsAt : ∀ (b i : Nat) (o : Oper), ops[i]? = some o → wt i = true → fl i = 4 + 2 * b → ∀ s2, AgreesAt b (ss i) s2 → AOp LL P o (frs i) s2 (ds i) s2
 make : ∀ (i : Nat), i < ops.size → fl i = 3 → ∃ x, ss (i + 1) = ss i ++ x
 setAt : ∀ (b i : Nat), i < ops.size → fl i = 5 + 2 * b → SetAt b (ss i) (ss (i + 1))
 still : ∀ (i : Nat), i < ops.size → (isE (fl i) = false ∨ wt i = false) → ss (i + 1) = ss i
 off : ∀ (i : Nat), wt i = false → fl i = 0
theorem txt_of {LL : Nat → Code → CC → Prop} {P : Program} {ops : Array Oper} : ∀ {l : List Oper} {fr : Fr} {s : List AObj} {fl : List Nat} {fr' : Fr} {s' : List AObj}, AOps LL P ops l fr s fl fr' s' →
   ∃ (frs : Nat → Fr) (ss : Nat → List AObj) (ds : Nat → AV) (wt : Nat → Bool), frs 0 = fr ∧ ss 0 = s ∧ frs l.length = fr' ∧ ss l.length = s' ∧ fl.length = l.length ∧
     (∀ (i : Nat) (o : Oper), l[i]? = some o → gd ops (frs i) o = some (wt i) ∧ frs (i + 1) = putF (frs i) o.dst (ds i) ∧ (wt i = false → ds i = undefA) ∧ (wt i = true → fl.getD i 0 = 0 → ∀ s, AOp LL P o (frs i) s (ds i) s) ∧
       (wt i = true → AOp LL P o (frs i) (ss i) (ds i) (ss (i + 1))) ∧ ((isE (fl.getD i 0) = false ∨ wt i = false) → ss (i + 1) = ss i) ∧
       (wt i = true → fl.getD i 0 = 1 → ∀ s2, Agrees (ss i) s2 → AOp LL P o (frs i) s2 (ds i) s2) ∧ (fl.getD i 0 = 3 → ∃ x, ss (i + 1) = ss i ++ x) ∧
       (∀ b, wt i = true → fl.getD i 0 = 4 + 2 * b → ∀ s2, AgreesAt b (ss i) s2 → AOp LL P o (frs i) s2 (ds i) s2) ∧ (∀ b, fl.getD i 0 = 5 + 2 * b → SetAt b (ss i) (ss (i + 1)))) ∧ ∀ i, wt i = false → fl.getD i 0 = 0 := by
 intro l fr s fl fr' s' h
 induction h with
 | nil fr s => exact ⟨fun _ => fr, fun _ => s, fun _ => undefA, fun _ => true, rfl, rfl, rfl, rfl, rfl, by simp, by simp⟩
 | skip o rest fr s fl fr' s' hg _ ih =>
   obtain ⟨frs, ss, ds, wt, h1, h2, h3, h4, h5, h6, h7⟩ := ih
   refine ⟨fun i => if i = 0 then fr else frs (i - 1), fun i => if i = 0 then s else ss (i - 1), fun i => if i = 0 then undefA else ds (i - 1), fun i => if i = 0 then false else wt (i - 1), rfl, rfl, by simpa using h3, by simpa using h4, by simp [h5], fun i o' ho => ?_, fun i hi => ?_⟩
   · cases i with
     | zero =>
       simp at ho; subst ho
       refine ⟨hg, ?_, ?_, ?_, ?_, ?_, ?_, ?_, ?_, ?_⟩
       · show frs 0 = putF fr o.dst undefA
         exact h1
       · exact fun _ => rfl
       · exact fun h => (by cases h)
       · exact fun h => (by cases h)
       · exact fun _ => (show ss 0 = s from h2)
       · exact fun h => (by cases h)
       · exact fun h => (by cases h)
       · exact fun _ h => (by cases h)
       · exact fun b h => (by have h' : (0 : Nat) = 5 + 2 * b := h; omega)
     | succ i => simpa using h6 i o' (by simpa using ho)
   · cases i with
     | zero => rfl
     | succ i => simpa using h7 i (by simpa using hi)
 | free o rest fr s d fl fr' s' hg ho' _ ih =>
   obtain ⟨frs, ss, ds, wt, h1, h2, h3, h4, h5, h6, h7⟩ := ih
   refine ⟨fun i => if i = 0 then fr else frs (i - 1), fun i => if i = 0 then s else ss (i - 1), fun i => if i = 0 then d else ds (i - 1), fun i => if i = 0 then true else wt (i - 1), rfl, rfl, by simpa using h3, by simpa using h4, by simp [h5], fun i o' ho => ?_, fun i hi => ?_⟩
   · cases i with
     | zero =>
       simp at ho; subst ho
       refine ⟨hg, ?_, ?_, ?_, ?_, ?_, ?_, ?_, ?_, ?_⟩
       · show frs 0 = putF fr o.dst d
         exact h1
       · exact fun h => (by cases h)
       · exact fun _ _ => ho'
       · intro _; show AOp LL P o fr s d (ss 0); rw [h2]; exact ho' s
       · exact fun _ => (show ss 0 = s from h2)
       · exact fun _ h => (by cases h)
       · exact fun h => (by cases h)
       · exact fun b _ h => (by have h' : (0 : Nat) = 4 + 2 * b := h; omega)
       · exact fun b h => (by have h' : (0 : Nat) = 5 + 2 * b := h; omega)
     | succ i => simpa using h6 i o' (by simpa using ho)
   · cases i with
     | zero => simp at hi
     | succ i => simpa using h7 i (by simpa using hi)
 | reads o rest fr s d fl fr' s' hg ho' _ ih =>
   obtain ⟨frs, ss, ds, wt, h1, h2, h3, h4, h5, h6, h7⟩ := ih
   refine ⟨fun i => if i = 0 then fr else frs (i - 1), fun i => if i = 0 then s else ss (i - 1), fun i => if i = 0 then d else ds (i - 1), fun i => if i = 0 then true else wt (i - 1), rfl, rfl, by simpa using h3, by simpa using h4, by simp [h5], fun i o' ho => ?_, fun i hi => ?_⟩
   · cases i with
     | zero =>
       simp at ho; subst ho
       refine ⟨hg, ?_, ?_, ?_, ?_, ?_, ?_, ?_, ?_, ?_⟩
       · show frs 0 = putF fr o.dst d
         exact h1
       · exact fun h => (by cases h)
       · exact fun _ h => (by cases h)
       · intro _; show AOp LL P o fr s d (ss 0); rw [h2]; exact ho' s (Agrees.refl s)
       · exact fun _ => (show ss 0 = s from h2)
       · exact fun _ _ => ho'
       · exact fun h => (by cases h)
       · exact fun b _ h => (by have h' : (1 : Nat) = 4 + 2 * b := h; omega)
       · exact fun b h => (by have h' : (1 : Nat) = 5 + 2 * b := h; omega)
     | succ i => simpa using h6 i o' (by simpa using ho)
   · cases i with
     | zero => simp at hi
     | succ i => simpa using h7 i (by simpa using hi)
 | readsAt c o rest fr s d fl fr' s' hg ho' _ ih =>
   obtain ⟨frs, ss, ds, wt, h1, h2, h3, h4, h5, h6, h7⟩ := ih
   refine ⟨fun i => if i = 0 then fr else frs (i - 1), fun i => if i = 0 then s else ss (i - 1), fun i => if i = 0 then d else ds (i - 1), fun i => if i = 0 then true else wt (i - 1), rfl, rfl, by simpa using h3, by simpa using h4, by simp [h5], fun i o' ho => ?_, fun i hi => ?_⟩
   · cases i with
     | zero =>
       simp at ho; subst ho
       refine ⟨hg, ?_, ?_, ?_, ?_, ?_, ?_, ?_, ?_, ?_⟩
       · show frs 0 = putF fr o.dst d
         exact h1
       · exact fun h => (by cases h)
       · exact fun _ h => (by have h' : 4 + 2 * c = 0 := h; omega)
       · intro _; show AOp LL P o fr s d (ss 0); rw [h2]; exact ho' s (AgreesAt.refl c s)
       · exact fun _ => (show ss 0 = s from h2)
       · exact fun _ h => (by have h' : 4 + 2 * c = 1 := h; omega)
       · exact fun h => (by have h' : 4 + 2 * c = 3 := h; omega)
       · intro b _ h
         have h' : 4 + 2 * c = 4 + 2 * b := h
         obtain rfl : c = b := by omega
         exact ho'
       · exact fun b h => (by have h' : 4 + 2 * c = 5 + 2 * b := h; omega)
     | succ i => simpa using h6 i o' (by simpa using ho)
   · cases i with
     | zero => simp at hi
     | succ i => simpa using h7 i (by simpa using hi)
 | effAt c o rest fr s d s1 fl fr' s' hg ho' hset _ ih =>
   obtain ⟨frs, ss, ds, wt, h1, h2, h3, h4, h5, h6, h7⟩ := ih
   refine ⟨fun i => if i = 0 then fr else frs (i - 1), fun i => if i = 0 then s else ss (i - 1), fun i => if i = 0 then d else ds (i - 1), fun i => if i = 0 then true else wt (i - 1), rfl, rfl, by simpa using h3, by simpa using h4, by simp [h5], fun i o' ho => ?_, fun i hi => ?_⟩
   · cases i with
     | zero =>
       simp at ho; subst ho
       refine ⟨hg, ?_, ?_, ?_, ?_, ?_, ?_, ?_, ?_, ?_⟩
       · show frs 0 = putF fr o.dst d
         exact h1
       · exact fun h => (by cases h)
       · exact fun _ h => (by have h' : 5 + 2 * c = 0 := h; omega)
       · intro _; show AOp LL P o fr s d (ss 0); rw [h2]; exact ho'
       · intro h
         exfalso
         rcases h with h | h
         · have h' : isE (5 + 2 * c) = false := h
           unfold isE at h'
           simp at h'
         · cases h
       · exact fun _ h => (by have h' : 5 + 2 * c = 1 := h; omega)
       · exact fun h => (by have h' : 5 + 2 * c = 3 := h; omega)
       · exact fun b _ h => (by have h' : 5 + 2 * c = 4 + 2 * b := h; omega)
       · intro b h
         have h' : 5 + 2 * c = 5 + 2 * b := h
         obtain rfl : c = b := by omega
         show SetAt c s (ss 0)
         rw [h2]; exact hset
     | succ i => simpa using h6 i o' (by simpa using ho)
   · cases i with
     | zero => simp at hi
     | succ i => simpa using h7 i (by simpa using hi)
 | make o rest fr s d x fl fr' s' hg ho' _ ih =>
   obtain ⟨frs, ss, ds, wt, h1, h2, h3, h4, h5, h6, h7⟩ := ih
   refine ⟨fun i => if i = 0 then fr else frs (i - 1), fun i => if i = 0 then s else ss (i - 1), fun i => if i = 0 then d else ds (i - 1), fun i => if i = 0 then true else wt (i - 1), rfl, rfl, by simpa using h3, by simpa using h4, by simp [h5], fun i o' ho => ?_, fun i hi => ?_⟩
   · cases i with
     | zero =>
       simp at ho; subst ho
       refine ⟨hg, ?_, ?_, ?_, ?_, ?_, ?_, ?_, ?_, ?_⟩
       · show frs 0 = putF fr o.dst d
         exact h1
       · exact fun h => (by cases h)
       · exact fun _ h => (by cases h)
       · intro _; show AOp LL P o fr s d (ss 0); rw [h2]; exact ho'
       · exact fun h => (by rcases h with h | h <;> cases h)
       · exact fun _ h => (by cases h)
       · exact fun _ => ⟨x, h2⟩
       · exact fun b _ h => (by have h' : (3 : Nat) = 4 + 2 * b := h; omega)
       · exact fun b h => (by have h' : (3 : Nat) = 5 + 2 * b := h; omega)
     | succ i => simpa using h6 i o' (by simpa using ho)
   · cases i with
     | zero => simp at hi
     | succ i => simpa using h7 i (by simpa using hi)
 | eff o rest fr s d s1 fl fr' s' hg ho' _ ih =>
   obtain ⟨frs, ss, ds, wt, h1, h2, h3, h4, h5, h6, h7⟩ := ih
   refine ⟨fun i => if i = 0 then fr else frs (i - 1), fun i => if i = 0 then s else ss (i - 1), fun i => if i = 0 then d else ds (i - 1), fun i => if i = 0 then true else wt (i - 1), rfl, rfl, by simpa using h3, by simpa using h4, by simp [h5], fun i o' ho => ?_, fun i hi => ?_⟩
   · cases i with
     | zero =>
       simp at ho; subst ho
       refine ⟨hg, ?_, ?_, ?_, ?_, ?_, ?_, ?_, ?_, ?_⟩
       · show frs 0 = putF fr o.dst d
         exact h1
       · exact fun h => (by cases h)
       · exact fun _ h => (by cases h)
       · intro _; show AOp LL P o fr s d (ss 0); rw [h2]; exact ho'
       · exact fun h => (by rcases h with h | h <;> cases h)
       · exact fun _ h => (by cases h)
       · exact fun h => (by cases h)
       · exact fun b _ h => (by have h' : (2 : Nat) = 4 + 2 * b := h; omega)
       · exact fun b h => (by have h' : (2 : Nat) = 5 + 2 * b := h; omega)
     | succ i => simpa using h6 i o' (by simpa using ho)
   · cases i with
     | zero => simp at hi
     | succ i => simpa using h7 i (by simpa using hi)
def anc (bf : Array Nat) (i j : Nat) : Bool := (bf.getD j 0).testBit i
def tmpsOf (o : Oper) : List Nat := o.op.operands.toList.filterMap fun | .tmp t => some t | _ => none
def readsOf (ops : Array Oper) (o : Oper) : List Nat := tmpsOf o ++ (gslot ops o).toList
def clash (ops : Array Oper) (x y : Oper) : Bool :=
 (match x.dst with | some t => (readsOf ops y).contains t || y.dst == some t | none => false) || (match y.dst with | some t => (readsOf ops x).contains t | none => false)
def conf (a b : Nat) : Bool := (isE a && isE b) || (a == 2 && isRd b) || (isRd a && b == 2) || (a == 1 && isW b) || (isW a && b == 1) || (decide (4 ≤ a) && decide (4 ≤ b) && a / 2 == b / 2 && a % 2 != b % 2)
theorem conf_EE {a b : Nat} (ha : isE a = true) (hb : isE b = true) : conf a b = true := by unfold conf; rw [ha, hb]; rfl
def ordB (ops : Array Oper) (fl : List Nat) : Bool :=
 let bf := Region.before ops
 (List.range ops.size).all fun j => match ops[j]? with
   | none => true
   | some oj => oj.after.all (fun e => !Region.binds .any e || decide (e.on < j)) &&
     (List.range ops.size).all fun i =>
       (!anc bf i j || oj.after.any fun e => Region.binds .any e && (e.on == i || anc bf i e.on)) &&
       match ops[i]? with
       | none => true
       | some oi => !decide (i < j) || anc bf i j || (!clash ops oi oj && !conf (fl.getD i 0) (fl.getD j 0))
structure OrdOk (ops : Array Oper) (an : Nat → Nat → Bool) (fl : Nat → Nat) : Prop where
 back : ∀ (j : Nat) (o : Oper), ops[j]? = some o → ∀ e ∈ o.after, Region.binds .any e = true → e.on < j
 up : ∀ (i j : Nat) (o : Oper), ops[j]? = some o → i < ops.size → an i j = true → ∃ e ∈ o.after, Region.binds .any e = true ∧ (e.on = i ∨ an i e.on = true)
 names : ∀ (i j : Nat) (oi oj : Oper), i < j → ops[i]? = some oi → ops[j]? = some oj → clash ops oi oj = true → an i j = true
 flags : ∀ (i j : Nat), i < j → j < ops.size → conf (fl i) (fl j) = true → an i j = true
theorem ordOk_of {ops : Array Oper} {fl : List Nat} (h : ordB ops fl = true) : OrdOk ops (anc (Region.before ops)) (fun i => fl.getD i 0) := by
 unfold ordB at h
 simp only [List.all_eq_true, List.mem_range] at h
 have hlt : ∀ {j : Nat} {o : Oper}, ops[j]? = some o → j < ops.size := fun ho => (Array.getElem?_eq_some_iff.1 ho).1
 refine ⟨fun j o ho e he hb => ?_, fun i j o ho hi ha => ?_, fun i j oi oj hij hoi hoj hc => ?_, fun i j hij hj hf => ?_⟩
 · have := h j (hlt ho)
   simp only [ho, Bool.and_eq_true] at this
   have := Array.all_eq_true_iff_forall_mem.1 this.1 e he
   simpa [hb] using this
 · have := h j (hlt ho)
   simp only [ho, Bool.and_eq_true, List.all_eq_true, List.mem_range] at this
   have h2 := (this.2 i hi).1
   rw [ha] at h2
   simp only [Bool.not_true, Bool.false_or] at h2
   obtain ⟨e, he, hb⟩ := Array.any_eq_true'.1 h2
   simp only [Bool.and_eq_true, Bool.or_eq_true, beq_iff_eq] at hb
   exact ⟨e, he, hb.1, hb.2⟩
 · have := h j (hlt hoj)
   simp only [hoj, Bool.and_eq_true, List.all_eq_true, List.mem_range] at this
   have h2 := (this.2 i (hlt hoi)).2
   simp only [hoi, Bool.or_eq_true, Bool.not_eq_true', decide_eq_false_iff_not, Bool.and_eq_true, hc] at h2
   rcases h2 with (h2 | h2) | h2
   · exact absurd hij h2
   · exact h2
   · exact absurd h2.1 (by simp)
 · have hoj : ops[j]? = some ops[j] := Array.getElem?_eq_getElem hj
   have hoi : ops[i]? = some ops[i] := Array.getElem?_eq_getElem (by omega)
   have := h j hj
   simp only [hoj, Bool.and_eq_true, List.all_eq_true, List.mem_range] at this
   have h2 := (this.2 i (by omega)).2
   simp only [hoi, Bool.or_eq_true, Bool.not_eq_true', decide_eq_false_iff_not, Bool.and_eq_true] at h2
   rcases h2 with (h2 | h2) | h2
   · exact absurd hij h2
   · exact h2
   · rw [hf] at h2; cases h2.2
section
variable {LL : Nat → Code → CC → Prop} {D : List Deferred} {P : Program} {ops : Array Oper} {frs : Nat → Fr} {ss : Nat → List AObj} {ds : Nat → AV} {wt : Nat → Bool} {fl : Nat → Nat} {an : Nat → Nat → Bool}
def dstOf (ops : Array Oper) (i : Nat) : Option Nat := (ops[i]?).bind (·.dst)
def valS (ops : Array Oper) (ds : Nat → AV) (fr0 : Fr) (L : Array Bool) (t : Nat) : Nat → Option AV
 | 0 => look fr0 t
 | i + 1 => if L.getD i false = true ∧ dstOf ops i = some t then some (ds i) else valS ops ds fr0 L t i
def valT (ops : Array Oper) (ds : Nat → AV) (fr0 : Fr) (t : Nat) : Nat → Option AV
 | 0 => look fr0 t
 | i + 1 => if dstOf ops i = some t then some (ds i) else valT ops ds fr0 t i
theorem look_putF (fr : Fr) (dst : Option Nat) (x : AV) (t : Nat) : look (putF fr dst x) t = if dst = some t then some x else look fr t := by
 cases dst with
 | none => simp [putF]
 | some d => simp [putF, look]
theorem look_frs (h : Txt LL P ops frs ss ds wt fl) (t : Nat) : ∀ j, j ≤ ops.size → look (frs j) t = valT ops ds (frs 0) t j
 | 0, _ => rfl
 | j + 1, hj => by
   have ho : ops[j]? = some ops[j] := Array.getElem?_eq_getElem (by omega)
   rw [h.next j _ ho, look_putF, valT, look_frs h t j (by omega)]
   unfold dstOf
   rw [ho]
   rfl
theorem valS_drop (ds : Nat → AV) (fr0 : Fr) (L : Array Bool) (t j : Nat) : ∀ m, j ≤ m → (∀ i, j ≤ i → i < m → dstOf ops i = some t → L.getD i false = false) → valS ops ds fr0 L t m = valS ops ds fr0 L t j
 | 0, hj, _ => by obtain rfl : j = 0 := by omega
                  rfl
 | m + 1, hj, h => by
   by_cases e : j = m + 1
   · subst e; rfl
   · rw [valS, if_neg, valS_drop ds fr0 L t j m (by omega) fun i h1 h2 => h i h1 (by omega)]
     rintro ⟨h1, h2⟩
     have := h m (by omega) (by omega) h2
     rw [this] at h1; cases h1
theorem valS_all (ds : Nat → AV) (fr0 : Fr) (L : Array Bool) (t : Nat) : ∀ j, (∀ i, i < j → dstOf ops i = some t → L.getD i false = true) → valS ops ds fr0 L t j = valT ops ds fr0 t j
 | 0, _ => rfl
 | j + 1, h => by
   rw [valS, valT, valS_all ds fr0 L t j fun i hi => h i (by omega)]
   by_cases e : dstOf ops j = some t
   · rw [if_pos ⟨h j (by omega) e, e⟩, if_pos e]
   · rw [if_neg fun hh => e hh.2, if_neg e]
theorem valS_set (ds : Nat → AV) (fr0 : Fr) (L : Array Bool) (t j : Nat) (hj : j < L.size) : ∀ m,
   ((j < m ∧ dstOf ops j = some t ∧ (∀ i, j < i → i < m → dstOf ops i = some t → L.getD i false = false)) → valS ops ds fr0 (L.setIfInBounds j true) t m = some (ds j)) ∧
   (¬ (j < m ∧ dstOf ops j = some t ∧ (∀ i, j < i → i < m → dstOf ops i = some t → L.getD i false = false)) → valS ops ds fr0 (L.setIfInBounds j true) t m = valS ops ds fr0 L t m)
 | 0 => ⟨fun h => by omega, fun _ => rfl⟩
 | m + 1 => by
   have hget : (L.setIfInBounds j true).getD m false = if m = j then true else L.getD m false := by
     by_cases e : m = j
     · subst e; simp [hj]
     · rw [if_neg e]; exact getD_set_ne false (fun h => e h.symm)
   obtain ⟨ih1, ih2⟩ := valS_set ds fr0 L t j hj m
   refine ⟨fun ⟨h1, h2, h3⟩ => ?_, fun hn => ?_⟩
   · by_cases e : m = j
     · subst e
       simp only [valS]
       rw [hget, if_pos rfl, if_pos ⟨rfl, h2⟩]
     · have h4 := ih1 ⟨by omega, h2, fun i h4 h5 => h3 i h4 (by omega)⟩
       simp only [valS]
       rw [hget, if_neg e, if_neg, h4]
       rintro ⟨h5, h6⟩
       have := h3 m (by omega) (by omega) h6
       rw [h5] at this; cases this
   · simp only [valS]
     rw [hget]
     by_cases e : m = j
     · subst e
       have hmt : dstOf ops m ≠ some t := fun h => hn ⟨by omega, h, fun i h1 h2 => by omega⟩
       rw [if_neg fun h => hmt h.2, if_neg fun h => hmt h.2]
       exact ih2 fun h => by omega
     · rw [if_neg e]
       by_cases hc : L.getD m false = true ∧ dstOf ops m = some t
       · rw [if_pos hc, if_pos hc]
       · rw [if_neg hc, if_neg hc]
         refine ih2 fun ⟨h1, h2, h3⟩ => hn ⟨by omega, h2, fun i h4 h5 h6 => ?_⟩
         by_cases him : i = m
         · subst him
           cases hL : L.getD i false with
           | false => rfl
           | true => exact absurd ⟨hL, h6⟩ hc
         · exact h3 i h4 (by omega) h6
structure Done (LL : Nat → Code → CC → Prop) (D : List Deferred) (ops : Array Oper) (ds : Nat → AV) (fr0 : Fr) (ss : Nat → List AObj) (fl : Nat → Nat) (an : Nat → Nat → Bool) (B N : Nat) (k0 : Cfg) (w0 : World) (L : Array Bool) (k : Cfg) (a : Act) (w : World) : Prop where
 size : L.size = ops.size
 closed : ∀ j, L.getD j false = true → ∀ i, i < ops.size → an i j = true → L.getD i false = true
 tmps : a.tmps.size = N
 defers : a.defers = D
 ext : Ext B k0 w0 k w
 slots : ∀ t x, valS ops ds fr0 L t ops.size = some x → RA k w (a.tmps.getD t undef) x
 store : ∃ m, m ≤ ops.size ∧ (∀ i, i < m → isE (fl i) = true → L.getD i false = true) ∧ (∀ i, m ≤ i → i < ops.size → isE (fl i) = true → L.getD i false = false) ∧ St LL B k (ss m) w
theorem ss_eq (h : Txt LL P ops frs ss ds wt fl) : ∀ (d m : Nat), m + d ≤ ops.size → (∀ i, m ≤ i → i < m + d → isE (fl i) = false) → ss (m + d) = ss m
 | 0, _, _, _ => rfl
 | d + 1, m, hm, hn => by
   rw [← Nat.add_assoc, h.still (m + d) (by omega) (.inl (hn (m + d) (by omega) (by omega)))]
   exact ss_eq h d m (by omega) (fun i h1 h2 => hn i h1 (by omega))
theorem ss_ext (h : Txt LL P ops frs ss ds wt fl) : ∀ (d m : Nat), m + d ≤ ops.size → (∀ i, m ≤ i → i < m + d → isE (fl i) = false ∨ fl i = 3) → ∃ xs, ss (m + d) = ss m ++ xs
 | 0, _, _, _ => ⟨[], by simp⟩
 | d + 1, m, hm, hn => by
   obtain ⟨xs, hx⟩ := ss_ext h d m (by omega) (fun i h1 h2 => hn i h1 (by omega))
   rcases hn (m + d) (by omega) (by omega) with h4 | h4
   · exact ⟨xs, by rw [← Nat.add_assoc, h.still (m + d) (by omega) (.inl h4), hx]⟩
   · obtain ⟨x, h5⟩ := h.make (m + d) (by omega) h4
     exact ⟨xs ++ x, by rw [← Nat.add_assoc, h5, hx, List.append_assoc]⟩
theorem ss_at (h : Txt LL P ops frs ss ds wt fl) (b : Nat) : ∀ (d m : Nat), m + d ≤ ops.size → (∀ i, m ≤ i → i < m + d → isE (fl i) = false ∨ fl i = 3 ∨ ∃ c, c ≠ b ∧ fl i = 5 + 2 * c) → (ss m).length ≤ (ss (m + d)).length ∧ (b < (ss m).length → (ss (m + d))[b]? = (ss m)[b]?)
 | 0, _, _, _ => ⟨Nat.le_refl _, fun _ => rfl⟩
 | d + 1, m, hm, hn => by
   obtain ⟨h1, h2⟩ := ss_at h b d m (by omega) (fun i h1 h2 => hn i h1 (by omega))
   rw [← Nat.add_assoc]
   rcases hn (m + d) (by omega) (by omega) with h4 | h4 | ⟨c, hc, h4⟩
   · rw [h.still (m + d) (by omega) (.inl h4)]; exact ⟨h1, h2⟩
   · obtain ⟨x, h5⟩ := h.make (m + d) (by omega) h4
     rw [h5]
     refine ⟨by simp; omega, fun hb => ?_⟩
     rw [List.getElem?_append_left (by omega)]; exact h2 hb
   · obtain ⟨h5, h6⟩ := h.setAt c (m + d) (by omega) h4
     exact ⟨by omega, fun hb => (h6 b (fun e => hc e.symm)).trans (h2 hb)⟩
theorem agrees_left (s xs : List AObj) : Agrees s (s ++ xs) := fun id h1 _ => by rw [List.getElem?_append_left h1]
theorem agrees_right (s xs : List AObj) : Agrees (s ++ xs) s := fun id _ h2 => by rw [List.getElem?_append_left h2]
theorem region_step {r : Option Nat} (hT : Txt LL P ops frs ss ds wt fl) (hO : OrdOk ops an fl) {B N : Nat} {k0 : Cfg} {w0 : World} (hN : ∀ o ∈ ops, ∀ d, o.dst = some d → d < N) (hnd : ∀ o ∈ ops, notDefer o = true)
   {L : Array Bool} {k : Cfg} {a : Act} {w : World} (hD : Done LL D ops ds (frs 0) ss fl an B N k0 w0 L k a w) {j : Nat} (hj : j ∈ Region.ready .any ops L) {Q : Exit → Act → World → Prop} {K : Act → World → Prop}
   (hK : ∀ k' a' w', Done LL D ops ds (frs 0) ss fl an B N k0 w0 (L.setIfInBounds j true) k' a' w' → K a' w') : wpOpIn (FW r) 0 P ops Q j K a w := by
 obtain ⟨hjun, oj, hoj, hall⟩ := mem_ready.1 hj
 have hjn : j < ops.size := (Array.getElem?_eq_some_iff.1 hoj).1
 have hjL : L.getD j false = false := by
   have : j < L.size := by rw [hD.size]; exact hjn
   simpa [this] using hjun
 have hanc : ∀ i, i < ops.size → an i j = true → L.getD i false = true := fun i hi ha => by
   obtain ⟨e, he, hb, h⟩ := hO.up i j oj hoj hi ha
   have h1 := hall e he hb
   rcases h with h | h
   · rw [← h]; exact h1
   · exact hD.closed _ h1 i hi h
 have hafter : ∀ i, i < ops.size → an j i = true → L.getD i false = false := fun i hi ha => by
   cases hL : L.getD i false with
   | false => rfl
   | true => have := hD.closed i hL j hjn ha; rw [hjL] at this; cases this
 have hdst : ∀ {i : Nat} {t : Nat}, dstOf ops i = some t → ∃ oi, ops[i]? = some oi ∧ oi.dst = some t := fun h => by
   unfold dstOf at h
   obtain ⟨oi, h1, h2⟩ := Option.bind_eq_some_iff.1 h
   exact ⟨oi, h1, h2⟩
 -- what is read holds what the text says
 have hval : ∀ t, t ∈ readsOf ops oj → valS ops ds (frs 0) L t ops.size = look (frs j) t := fun t ht => by
   rw [look_frs hT t j (by omega)]
   rw [valS_drop ds (frs 0) L t j ops.size (by omega) fun i h1 h2 h3 => ?_]
   · refine valS_all ds (frs 0) L t j fun i hi h3 => ?_
     obtain ⟨oi, h4, h5⟩ := hdst h3
     refine hanc i (by omega) (hO.names i j oi oj hi h4 hoj ?_)
     unfold clash
     rw [h5]
     simp [ht]
   · obtain ⟨oi, h4, h5⟩ := hdst h3
     by_cases hij : i = j
     · subst hij; exact hjL
     · refine hafter i h2 (hO.names j i oj oi (by omega) hoj h4 ?_)
       unfold clash
       rw [h5]
       simp [ht]
 have hslot : ∀ t x, t ∈ readsOf ops oj → look (frs j) t = some x → RA k w (a.tmps.getD t undef) x := fun t x ht hx => hD.slots t x (by rw [hval t ht]; exact hx)
 have hgd := hT.guard j oj hoj
 have hwant := gd_wanted hgd (k := k) (w := w) (a := a) fun t x hg hx => hslot t x (by unfold readsOf; simp [hg]) hx
 have hops : Ops k w a oj (frs j) := fun t x ht hx => hslot t x (by
   unfold readsOf tmpsOf
   refine List.mem_append_left _ (List.mem_filterMap.2 ⟨.tmp t, by simpa using ht, rfl⟩)) hx
 -- the memory behind it
 have hput : ∀ (v : Value) (k' : Cfg) (w' : World), RA k' w' v (ds j) → Ext B k w k' w' → (∃ m, m ≤ ops.size ∧ (∀ i, i < m → isE (fl i) = true → (L.setIfInBounds j true).getD i false = true) ∧ (∀ i, m ≤ i → i < ops.size → isE (fl i) = true → (L.setIfInBounds j true).getD i false = false) ∧ St LL B k' (ss m) w') →
     K (a.put oj.dst v) w' := fun v k' w' hv he hs => by
   have hjs : j < L.size := by rw [hD.size]; exact hjn
   refine hK k' _ w' ⟨by simp [hD.size], fun i hi m hm ha => ?_, by rw [put_size, hD.tmps], by rw [put_defers', hD.defers], hD.ext.trans he, fun t x hx => ?_, hs⟩
   · by_cases hmj : m = j
     · subst hmj; simp [hjs]
     · rw [getD_set_ne false (Ne.symm hmj)]
       by_cases hij : i = j
       · subst hij; exact hanc m hm ha
       · rw [getD_set_ne false (Ne.symm hij)] at hi
         exact hD.closed i hi m hm ha
   · by_cases hd : dstOf ops j = some t
     · rw [(valS_set ds (frs 0) L t j hjs ops.size).1 ⟨hjn, hd, fun i h1 h2 h3 => ?_⟩] at hx
       · obtain rfl := Option.some.inj hx
         obtain ⟨o', h4, h5⟩ := hdst hd
         rw [hoj] at h4; obtain rfl := Option.some.inj h4
         rw [h5, getD_put _ _ _ (by rw [hD.tmps]; exact hN oj (Array.mem_of_getElem? hoj) t h5), if_pos rfl]
         exact hv
       · obtain ⟨oi, h4, h5⟩ := hdst h3
         obtain ⟨o', h6, h7⟩ := hdst hd
         rw [hoj] at h6; obtain rfl := Option.some.inj h6
         refine hafter i h2 (hO.names j i oj oi h1 hoj h4 ?_)
         unfold clash
         rw [h7, h5]
         simp
     · rw [(valS_set ds (frs 0) L t j hjs ops.size).2 fun h => hd h.2.1] at hx
       have h1 := (hD.slots t x hx).mono he.mono
       have : (a.put oj.dst v).tmps.getD t undef = a.tmps.getD t undef := by
         cases hdj : oj.dst with
         | none => rfl
         | some d =>
           rw [getD_put _ _ _ (by rw [hD.tmps]; exact hN oj (Array.mem_of_getElem? hoj) d hdj), if_neg]
           intro e; subst e
           exact hd (by unfold dstOf; rw [hoj]; exact hdj)
       rw [this]; exact h1
 have hsetj : ∀ i, isE (fl i) = true → isE (fl j) = false → (L.setIfInBounds j true).getD i false = L.getD i false := fun i h1 h2 => getD_set_ne false (fun e => by subst e; rw [h1] at h2; cases h2)
 obtain ⟨m, hm, hm1, hm2, hst⟩ := hD.store
 -- whoever conflicts with j is done exactly if he stands ahead of it
 have hbef : ∀ i, i < j → conf (fl i) (fl j) = true → L.getD i false = true := fun i h1 h2 => hanc i (by omega) (hO.flags i j h1 hjn h2)
 have haft : ∀ i, j < i → i < ops.size → conf (fl j) (fl i) = true → L.getD i false = false := fun i h1 h2 h3 => hafter i h2 (hO.flags j i h1 h2 h3)
 have noE : ∀ i, ¬ isE (fl i) = true → isE (fl i) = false := fun i h => by simpa using h
 have hsame : isE (fl j) = true → ss j = ss m := fun h1 => by
   rcases Nat.le_total m j with hmj | hmj
   · obtain ⟨d, rfl⟩ : ∃ d, j = m + d := ⟨j - m, by omega⟩
     refine ss_eq hT d m (by omega) (fun i h2 h3 => noE i fun h4 => ?_)
     have h5 := hm2 i h2 (by omega) h4
     have h7 := hbef i h3 (conf_EE h4 h1)
     rw [h5] at h7; cases h7
   · obtain ⟨d, rfl⟩ : ∃ d, m = j + d := ⟨m - j, by omega⟩
     refine (ss_eq hT d j hm (fun i h2 h3 => noE i fun h4 => ?_)).symm
     have h5 := hm1 i h3 h4
     by_cases hij : i = j
     · subst hij; rw [hjL] at h5; cases h5
     · have h7 := haft i (by omega) (by omega) (conf_EE h1 h4)
       rw [h7] at h5; cases h5
 have hagree : fl j = 1 → Agrees (ss j) (ss m) := fun h1 => by
   have hno : ∀ x, isE x = true → x ≠ 3 → isW x = true := fun x h h3 => by
     rcases isE_cases h with e | e | ⟨b, e⟩
     · subst e; rfl
     · exact absurd e h3
     · subst e; unfold isW; simp
   rcases Nat.le_total m j with hmj | hmj
   · obtain ⟨d, rfl⟩ : ∃ d, j = m + d := ⟨j - m, by omega⟩
     obtain ⟨xs, hx⟩ := ss_ext hT d m (by omega) (fun i h2 h3 => by
       by_cases hE : isE (fl i) = true
       · refine .inr (Classical.byContradiction fun h3' => ?_)
         have h5 := hm2 i h2 (by omega) hE
         have h7 := hbef i h3 (by unfold conf; rw [h1, hno _ hE h3']; simp)
         rw [h5] at h7; cases h7
       · exact .inl (noE i hE))
     rw [hx]; exact agrees_right _ _
   · obtain ⟨d, rfl⟩ : ∃ d, m = j + d := ⟨m - j, by omega⟩
     obtain ⟨xs, hx⟩ := ss_ext hT d j hm (fun i h2 h3 => by
       by_cases hE : isE (fl i) = true
       · refine .inr (Classical.byContradiction fun h3' => ?_)
         have h5 := hm1 i h3 hE
         by_cases hij : i = j
         · subst hij; rw [h1] at hE; cases hE
         · have h7 := haft i (by omega) (by omega) (by unfold conf; rw [h1, hno _ hE h3']; simp)
           rw [h7] at h5; cases h5
       · exact .inl (noE i hE))
     rw [hx]; exact agrees_left _ _
 have hagreeAt : ∀ b, fl j = 4 + 2 * b → AgreesAt b (ss j) (ss m) := fun b h1 => by
   have hno : ∀ x, isE x = true → conf x (4 + 2 * b) = false → conf (4 + 2 * b) x = false → x = 3 ∨ ∃ c, c ≠ b ∧ x = 5 + 2 * c := fun x h h3 h4 => by
     rcases isE_cases h with e | e | ⟨c, e⟩
     · subst e
       exfalso
       have : isRd (4 + 2 * b) = true := by unfold isRd; simp
       unfold conf at h3; rw [this] at h3; simp at h3
     · exact .inl e
     · refine .inr ⟨c, fun hcb => ?_, e⟩
       subst e; subst hcb
       have : conf (5 + 2 * c) (4 + 2 * c) = true := by
         unfold conf
         simp only [Bool.or_eq_true, Bool.and_eq_true, decide_eq_true_eq, beq_iff_eq, bne_iff_ne]
         right; omega
       rw [this] at h3; cases h3
   have sym : ∀ x y, conf x y = conf y x := fun x y => by
     unfold conf
     have e1 : (x / 2 == y / 2) = (y / 2 == x / 2) := by rw [Bool.eq_iff_iff]; simp only [beq_iff_eq]; exact eq_comm
     have e2 : (x % 2 != y % 2) = (y % 2 != x % 2) := by rw [Bool.eq_iff_iff]; simp only [bne_iff_ne]; exact ne_comm
     rw [e1, e2, Bool.and_comm (isE x), Bool.and_comm (decide (4 ≤ x)), Bool.and_comm (isRd x), Bool.and_comm (isW x), Bool.and_comm (x == 2), Bool.and_comm (x == 1)]
     cases (isE y && isE x) <;> cases (isRd y && x == 2) <;> cases (y == 2 && isRd x) <;> cases (isW y && x == 1) <;> cases (y == 1 && isW x) <;> rfl
   rcases Nat.le_total m j with hmj | hmj
   · obtain ⟨d, rfl⟩ : ∃ d, j = m + d := ⟨j - m, by omega⟩
     obtain ⟨g1, g2⟩ := ss_at hT b d m (by omega) (fun i h2 h3 => by
       by_cases hE : isE (fl i) = true
       · refine .inr (Classical.byContradiction fun h3' => ?_)
         have h5 := hm2 i h2 (by omega) hE
         have hc : conf (fl i) (fl (m + d)) = true := by
           cases hcc : conf (fl i) (fl (m + d)) with
           | true => rfl
           | false => rw [h1] at hcc; exact absurd (hno _ hE hcc (by rw [sym]; exact hcc)) h3'
         have h7 := hbef i h3 hc
         rw [h5] at h7; cases h7
       · exact .inl (noE i hE))
     exact fun _ hb => (g2 hb).symm
   · obtain ⟨d, rfl⟩ : ∃ d, m = j + d := ⟨m - j, by omega⟩
     obtain ⟨g1, g2⟩ := ss_at hT b d j hm (fun i h2 h3 => by
       by_cases hE : isE (fl i) = true
       · refine .inr (Classical.byContradiction fun h3' => ?_)
         have h5 := hm1 i h3 hE
         by_cases hij : i = j
         · subst hij; rw [hjL] at h5; cases h5
         · have hc : conf (fl j) (fl i) = true := by
             cases hcc : conf (fl j) (fl i) with
             | true => rfl
             | false => rw [h1] at hcc; exact absurd (hno _ hE (by rw [sym]; exact hcc) hcc) h3'
           have h7 := haft i (by omega) (by omega) hc
           rw [h7] at h5; cases h5
       · exact .inl (noE i hE))
     exact fun hb _ => g2 hb
 unfold wpOpIn
 rw [hoj]
 dsimp only
 rw [hwant]
 have rest : isE (fl j) = false → ∀ (v : Value) (k' : Cfg) (w' : World), RA k' w' v (ds j) → Ext B k w k' w' → St LL B k' (ss m) w' → K (a.put oj.dst v) w' := fun hn v k' w' hv he hs =>
   hput v k' w' hv he ⟨m, hm, fun i h1 h2 => by rw [hsetj i h2 hn]; exact hm1 i h1 h2, fun i h1 h2 h3 => by rw [hsetj i h3 hn]; exact hm2 i h1 h2 h3, hs⟩
 cases hw : wt j with
 | false =>
   rw [if_neg (by simp)]
   have hf := hT.off j hw
   rw [hT.skip j oj hoj hw] at rest
   refine ⟨fun f _ => FW_fn r f, ?_⟩
   exact rest (by rw [hf]; rfl) _ k w RA.undf (Ext.refl B k w) hst
 | true =>
   rw [if_pos rfl]
   have hndj := hnd oj (Array.mem_of_getElem? hoj)
   rcases code_cases (fl j) with h0 | h1' | ⟨b, h4'⟩ | h2'
   · refine Oper.wpIn_mono (fun a' w' hh => ?_) (hT.free j oj hoj hw h0 (ss m) B k a w hops hst hndj r _)
     obtain ⟨v, rfl, k', hv, he, hs⟩ := hh
     exact rest (by rw [h0]; rfl) v k' w' hv he hs
   · refine Oper.wpIn_mono (fun a' w' hh => ?_) (hT.reads j oj hoj hw h1' (ss m) (hagree h1') B k a w hops hst hndj r _)
     obtain ⟨v, rfl, k', hv, he, hs⟩ := hh
     exact rest (by rw [h1']; rfl) v k' w' hv he hs
   · refine Oper.wpIn_mono (fun a' w' hh => ?_) (hT.readsAt b j oj hoj hw h4' (ss m) (hagreeAt b h4') B k a w hops hst hndj r _)
     obtain ⟨v, rfl, k', hv, he, hs⟩ := hh
     refine rest ?_ v k' w' hv he hs
     rw [h4']
     have e2 : (4 + 2 * b == 2) = false := by simp; omega
     have e3 : (4 + 2 * b == 3) = false := by simp; omega
     have e5 : ((4 + 2 * b) % 2 == 1) = false := by simp
     unfold isE; rw [e2, e3, e5]; simp
   · have hst' : St LL B k (ss j) w := by rw [hsame h2']; exact hst
     refine Oper.wpIn_mono (fun a' w' hh => ?_) (hT.step j oj hoj hw B k a w hops hst' hndj r _)
     obtain ⟨v, rfl, k', hv, he, hs⟩ := hh
     refine hput v k' w' hv he ⟨j + 1, by omega, fun i h3 h4 => ?_, fun i h3 h4 h5 => ?_, hs⟩
     · by_cases hij : i = j
       · subst hij; simp [hD.size, hjn]
       · rw [getD_set_ne false (Ne.symm hij)]
         exact hbef i (by omega) (conf_EE h4 h2')
     · rw [getD_set_ne false (by omega)]
       exact haft i (by omega) h4 (conf_EE h2' h5)
theorem ready_nil (hO : OrdOk ops an fl) {L : Array Bool} (hsz : L.size = ops.size) (h : Region.ready .any ops L = []) : ∀ i, i < ops.size → L.getD i false = true := by
 intro i
 induction i using Nat.strongRecOn with
 | _ i ih =>
   intro hi
   cases hL : L.getD i false with
   | true => rfl
   | false =>
     exfalso
     have : i ∈ Region.ready .any ops L := mem_ready.2 ⟨by have hs : i < L.size := by omega
                                                           simpa [hs] using hL, ops[i], Array.getElem?_eq_getElem hi, fun e he hb => by
       have := hO.back i ops[i] (Array.getElem?_eq_getElem hi) e he hb
       exact ih e.on this (by omega)⟩
     rw [h] at this; cases this
theorem region_any {r : Option Nat} (hT : Txt LL P ops frs ss ds wt fl) (hO : OrdOk ops an fl) {B N : Nat} {k0 : Cfg} {w0 : World} (hN : ∀ o ∈ ops, ∀ d, o.dst = some d → d < N) (hnd : ∀ o ∈ ops, notDefer o = true) {Q : Exit → Fr → List AObj → Prop} (hQ : Q .normal (frs ops.size) (ss ops.size)) :
   ∀ (f : Nat) (L : Array Bool) (U : List Nat) (k : Cfg) (a : Act) (w : World), U.length = f → (∀ i, i < ops.size → L.getD i false = false → i ∈ U) → Done LL D ops ds (frs 0) ss fl an B N k0 w0 L k a w → wpAnyIn (FW r) 0 P .any ops (Post LL B N D k0 w0 Q) f L a w := by
 have fin : ∀ (L : Array Bool) (k : Cfg) (a : Act) (w : World), (∀ i, i < ops.size → L.getD i false = true) → Done LL D ops ds (frs 0) ss fl an B N k0 w0 L k a w → Post LL B N D k0 w0 Q .normal a w := fun L k a w hall hD => by
   obtain ⟨m, hm, hm1, hm2, hst⟩ := hD.store
   refine ⟨_, _, k, hQ, hD.tmps, hD.defers, hD.ext, fun t x hx => hD.slots t x ?_, ?_⟩
   · rw [look_frs hT t _ (Nat.le_refl _)] at hx
     rw [valS_all ds (frs 0) L t ops.size fun i hi _ => hall i hi]
     exact hx
   · obtain ⟨d, hd⟩ : ∃ d, ops.size = m + d := ⟨ops.size - m, by omega⟩
     rw [hd, ss_eq hT d m (by omega) (fun i h1 h2 => ?_)]
     · exact hst
     · cases h3 : isE (fl i) with
       | false => rfl
       | true =>
         have h4 := hm2 i h1 (by omega) h3
         have h5 := hall i (by omega)
         rw [h4] at h5; cases h5
 intro f
 induction f with
 | zero =>
   intro L U k a w hU hun hD
   obtain rfl : U = [] := List.eq_nil_of_length_eq_zero hU
   have hall : ∀ i, i < ops.size → L.getD i false = true := fun i hi => by
     cases hL : L.getD i false with
     | true => rfl
     | false => exact absurd (hun i hi hL) (by simp)
   refine ⟨?_, fin L k a w hall hD⟩
   cases hr : Region.ready .any ops L with
   | nil => rfl
   | cons j l =>
     have hj : j ∈ Region.ready .any ops L := by rw [hr]; simp
     obtain ⟨hjun, oj, hoj, _⟩ := mem_ready.1 hj
     have hjn : j < ops.size := (Array.getElem?_eq_some_iff.1 hoj).1
     have hs : j < L.size := by rw [hD.size]; exact hjn
     have := hall j hjn
     simp [hs] at this hjun
     rw [this] at hjun; cases hjun
 | succ f ih =>
   intro L U k a w hU hun hD
   refine ⟨fun h => fin L k a w (ready_nil hO hD.size h) hD, fun j hj => ?_⟩
   obtain ⟨hjun, oj, hoj, _⟩ := mem_ready.1 hj
   have hjn : j < ops.size := (Array.getElem?_eq_some_iff.1 hoj).1
   have hs : j < L.size := by rw [hD.size]; exact hjn
   have hjL : L.getD j false = false := by simpa [hs] using hjun
   refine region_step hT hO hN hnd hD hj fun k' a' w' hD' => ih _ (U.erase j) k' a' w' ?_ (fun i hi hL => ?_) hD'
   · rw [List.length_erase_of_mem (hun j hjn hjL)]; omega
   · by_cases hij : i = j
     · subst hij; simp [hs] at hL
     · rw [getD_set_ne false (Ne.symm hij)] at hL
       exact (List.mem_erase_of_ne hij).2 (hun i hi hL)
end
end Go.Bb
