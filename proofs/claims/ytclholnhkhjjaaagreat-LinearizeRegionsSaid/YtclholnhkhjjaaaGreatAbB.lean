/-
  Part AbB of this claim's proof. Joined by merge.py from the texts of wip/tpl.
-/
import Derived.Test.YtclholnhkhjjaaaGreatAbA
import Derived.Laws.Tables
import Derived.Laws.StructEq
import Derived.Shelf.Abstract
set_option linter.unusedVariables false
set_option linter.unusedSimpArgs false
set_option linter.unnecessarySimpa false
namespace Go.Ab
open Go Go.RowKit

/-- An operand. -/
inductive X where
  | t (n : Nat)
  | c (x : AV)
  deriving Inhabited

def X.ev (fr : Fr) : X → Option AV
  | .t n => look fr n
  | .c x => some x

/-- Instructions. -/
inductive CI where
  | mov (x : X)
  | pick (c a b : X)
  | ld (n : Option Nat) (x : X)
  | st (n : Nat) (x v : X)
  | fad (off : Nat) (x : X)
  | iad (sz : Nat) (x i : X)
  | fld (off : Nat) (n : Option Nat) (x : X)
  | ext (x : X) (i : Nat)
  | bin (op : BinOp) (x y : X)
  | not (x : X)
  | len (x : X)
  | lens (x : X)
  | slc (sz : Nat) (x : X) (lo hi : Option X)
  | app (mu : Bool) (e sz bytes : Nat) (x y : X)
  | bld (z : List AV) (ps : List (Nat × Nat × X))
  | bsl (mu : Bool) (e sz n : Nat) (z : List AV) (ps : List (Nat × Nat × X))
  | bsf (sz n : Nat) (z : List AV) (ps : List (Nat × Nat × X))
  | mks (mu : Bool) (e bytes : Nat) (z : AV) (l c : X)
  | cnv (k : IntKind) (x : X)
  | iap (n sz : Nat) (x i : X)
  | nck (x : X)
  | box (x : X)
  | call (f : FuncId) (xs : List X)
  deriving Inhabited

/-- Operators on scalars. -/
def binS : BinOp → Value → Value → Option Value
  | .add, .int k a, .int k' b => if k = k' then some (.int k (k.wrap (a + b))) else none
  | .sub, .int k a, .int k' b => if k = k' then some (.int k (k.wrap (a - b))) else none
  | .mul, .int k a, .int k' b => if k = k' then some (.int k (k.wrap (a * b))) else none
  | .eql, .int k a, .int k' b => if k = k' then some (.bool (a == b)) else none
  | .neq, .int k a, .int k' b => if k = k' then some (.bool (a != b)) else none
  | .lss, .int k a, .int k' b => if k = k' then some (.bool (decide (a < b))) else none
  | .leq, .int k a, .int k' b => if k = k' then some (.bool (decide (a ≤ b))) else none
  | .gtr, .int k a, .int k' b => if k = k' then some (.bool (decide (a > b))) else none
  | .geq, .int k a, .int k' b => if k = k' then some (.bool (decide (a ≥ b))) else none
  | .eql, .string a, .string b => some (.bool (a.toList == b.toList))
  | .neq, .string a, .string b => some (.bool !(a.toList == b.toList))
  | .add, .string a, .string b => if ((a.size + b.size : Nat) : Int) ≤ 9223372036854775807 then some (.string (a ++ b)) else none
  | _, _, _ => none

def scOf : Option AV → Option Value
  | some (.d (.sc v)) => some v
  | _ => none
def intA : Option AV → Option Int
  | some (.d (.sc (.int .i64 n))) => some n
  | _ => none
def slA (sz : Nat) : Option AV → Option (List (List D))
  | some (.d (.sl s rows)) => if s = sz then some rows else none
  | some (.tsl _ s rows) => if s = sz then some rows else none
  | some (.nil s) => if s = sz then some [] else none
  | _ => none

/-- A bound of a slice expression. -/
def boundA (fr : Fr) (dft : Nat) : Option X → Option Int
  | none => some dft
  | some x => intA (x.ev fr)

/-- A struct's cells, parts of them given. -/
def fillA (fr : Fr) : List AV → List (Nat × Nat × X) → Option (List AV)
  | cs, [] => some cs
  | cs, (off, size, x) :: ps => match (x.ev fr).bind AV.cells with
    | some vs => if vs.length = size ∧ off + size ≤ cs.length then fillA fr (cs.take off ++ vs ++ cs.drop (off + size)) ps else none
    | none => none

/-- What is appended: so many elements, these cells. -/
def srcA (s : List AObj) (sz : Nat) : Option AV → Option (Nat × List AV)
  | some (.vec id n sz') => match s[id]? with
    | some (.vec _ sz2 ds) => if sz' = sz ∧ sz2 = sz ∧ 0 < sz ∧ ds.length = n * sz then some (n, ds) else none
    | _ => none
  | y => match slA sz y with
    | some rows => some (rows.length, rows.flatten.map .d)
    | none => none

def CI.sem (fr : Fr) (s : List AObj) : CI → Option (AV × List AObj)
  | .mov x => (x.ev fr).map fun d => (d, s)
  | .pick c a b => match scOf (c.ev fr) with
    | some (.bool true) => (a.ev fr).map fun d => (d, s)
    | some (.bool false) => (b.ev fr).map fun d => (d, s)
    | _ => none
  | .ld none x => match x.ev fr with
    | some (.d (.ref (d :: _))) => some (.d d, s)
    | some (.ptr id off) => match s[id]? with
      | some (.cells cs) => (cs[off]?).map fun d => (d, s)
      | _ => none
    | some (.vptr id n off) => match s[id]? with
      | some (.vec _ sz ds) => if 0 < sz ∧ ds.length = n * sz then (ds[off]?).map fun d => (d, s) else none
      | _ => none
    | _ => none
  | .ld (some m) x => match x.ev fr with
    | some (.d (.ref ds)) => if m ≤ ds.length then some (.d (.agg (ds.take m)), s) else none
    | some (.ptr id off) => match s[id]? with
      | some (.cells cs) => if off + m ≤ cs.length then some (.agg ((cs.drop off).take m), s) else none
      | _ => none
    | some (.vptr id n off) => match s[id]? with
      | some (.vec _ sz ds) => if 0 < sz ∧ ds.length = n * sz ∧ off + m ≤ ds.length then some (.agg ((ds.drop off).take m), s) else none
      | _ => none
    | _ => none
  | .st m x v => match x.ev fr, (v.ev fr).bind AV.cells with
    | some (.ptr id off), some vs => match s[id]? with
      | some (.cells cs) => if vs.length = m ∧ off + m ≤ cs.length then some (undefA, s.set id (.cells (cs.take off ++ vs ++ cs.drop (off + m)))) else none
      | _ => none
    | some (.vptr id n off), some vs => match s[id]? with
      | some (.vec e sz ds) => if 0 < sz ∧ ds.length = n * sz ∧ vs.length = m ∧ off + m ≤ ds.length then some (undefA, s.set id (.vec e sz (ds.take off ++ vs ++ ds.drop (off + m)))) else none
      | _ => none
    | _, _ => none
  | .fad off x => match x.ev fr with
    | some (.d (.ref ds)) => some (.d (.ref (ds.drop off)), s)
    | some (.ptr id o) => some (.ptr id (o + off), s)
    | some (.vptr id n o) => some (.vptr id n (o + off), s)
    | _ => none
  | .iad sz x i => match intA (i.ev fr) with
    | none => none
    | some n => if 0 ≤ n then match x.ev fr with
        | some (.vec id m sz') => match s[id]? with
          | some (.vec _ sz2 ds) => if sz' = sz ∧ sz2 = sz ∧ 0 < sz ∧ ds.length = m * sz ∧ n.toNat < m then some (.vptr id m (n.toNat * sz), s) else none
          | _ => none
        | y => match slA sz y with
          | some rows => match rows[n.toNat]? with
            | some r => some (.d (.ref r), s)
            | none => none
          | none => none
      else none
  | .fld off none x => match (x.ev fr).bind AV.row with
    | some cs => (cs[off]?).map fun d => (d, s)
    | none => none
  | .fld off (some m) x => match (x.ev fr).bind AV.row with
    | some cs => if off + m ≤ cs.length then some (.agg ((cs.drop off).take m), s) else none
    | none => none
  | .ext x i => match x.ev fr with
    | some (.d (.tup ds)) => (ds[i]?).map fun d => (.d d, s)
    | _ => none
  | .bin op x y => match scOf (x.ev fr), scOf (y.ev fr) with
    | some u, some v => (binS op u v).map fun r => (.d (.sc r), s)
    | _, _ => none
  | .not x => match scOf (x.ev fr) with
    | some (.bool b) => some (.d (.sc (.bool !b)), s)
    | _ => none
  | .len x => match x.ev fr with
    | some (.d (.sl _ rows)) => some (.d (.sc (.int .i64 rows.length)), s)
    | some (.tsl _ _ rows) => some (.d (.sc (.int .i64 rows.length)), s)
    | some (.nil _) => some (.d (.sc (.int .i64 0)), s)
    | some (.vec _ n _) => some (.d (.sc (.int .i64 n)), s)
    | _ => none
  | .lens x => match scOf (x.ev fr) with
    | some (.string b) => some (.d (.sc (.int .i64 b.size)), s)
    | _ => none
  | .slc sz x lo hi => match slA sz (x.ev fr) with
    | some rows => match boundA fr 0 lo, boundA fr rows.length hi with
      | some l, some h => if 0 ≤ l ∧ l ≤ h ∧ h ≤ rows.length then some (.d (.sl sz ((rows.take h.toNat).drop l.toNat)), s) else none
      | _, _ => none
    | none => none
  | .app mu e sz bytes x y => match x.ev fr with
    | some (.vec id n sz') => match srcA s sz (y.ev fr), s[id]? with
      | some us, some (.vec e' sz2 ds) => if e' = e ∧ sz' = sz ∧ sz2 = sz ∧ 0 < sz ∧ ds.length = n * sz ∧ us.2.length = us.1 * sz ∧ (n + us.1) * bytes ≤ 140737488355328 ∧ n + us.1 ≤ 9223372036854775807 then
          some (.vec id (n + us.1) sz, s.set id (.vec e sz (ds ++ us.2))) else none
      | _, _ => none
    | z => match slA sz (y.ev fr) with
      | some news => match z with
        | some (.nil _) => if mu then none else if news = [] then some (.nil sz, s) else
            if news.length * bytes ≤ 140737488355328 ∧ news.length ≤ 9223372036854775807 then some (.tsl s.length sz news, s ++ [.row e sz news.length]) else none
        | some (.tsl id sz' rows) => match s[id]? with
          | some (.row e' sz2 n) => if e' = e ∧ sz' = sz ∧ sz2 = sz ∧ n = rows.length ∧ (rows.length + news.length) * bytes ≤ 140737488355328 ∧ rows.length + news.length ≤ 9223372036854775807 then
              some (.tsl id sz (rows ++ news), s.set id (.row e sz (rows.length + news.length))) else none
          | _ => none
        | _ => none
      | none => none
  | .bld z ps => (fillA fr z ps).map fun cs => (.agg cs, s)
  | .bsl mu e sz n z ps => match fillA fr z ps with
    | some cs => if cs.length = n * sz ∧ n ≤ 9223372036854775807 then
        if mu then some (.vec s.length n sz, s ++ [.vec e sz cs]) else match toLs cs with
          | some ds => some (.tsl s.length sz (chunk sz n ds), s ++ [.row e sz n])
          | none => none
      else none
    | none => none
  | .bsf sz n z ps => match fillA fr z ps with
    | some cs => if cs.length = n * sz ∧ n ≤ 9223372036854775807 then match toLs cs with
        | some ds => some (.d (.sl sz (chunk sz n ds)), s)
        | none => none
      else none
    | none => none
  | .mks mu e bytes z l c => match intA (l.ev fr), intA (c.ev fr) with
    | some n, some m => if 0 ≤ n ∧ n ≤ m ∧ m * bytes ≤ 140737488355328 ∧ m ≤ 140737488355328 then
        if mu then some (.vec s.length n.toNat 1, s ++ [.vec e 1 (List.replicate n.toNat z)]) else match z.toL with
          | some d => some (.tsl s.length 1 (List.replicate n.toNat [d]), s ++ [.row e 1 n.toNat])
          | none => none
      else none
    | _, _ => none
  | .cnv k x => match scOf (x.ev fr) with
    | some (.int _ n) => some (.d (.sc (.int k (k.wrap n))), s)
    | _ => none
  | .iap n sz x i => match intA (i.ev fr) with
    | none => none
    | some j => if 0 ≤ j ∧ j < n then match x.ev fr with
        | some (.d (.ref ds)) => some (.d (.ref (ds.drop (j.toNat * sz))), s)
        | some (.ptr id o) => some (.ptr id (o + j.toNat * sz), s)
        | some (.vptr id m o) => some (.vptr id m (o + j.toNat * sz), s)
        | _ => none
      else none
  | .nck x => match x.ev fr with
    | some (.d (.ref ds)) => some (.d (.ref ds), s)
    | some (.ptr id o) => some (.ptr id o, s)
    | some (.vptr id m o) => some (.vptr id m o, s)
    | _ => none
  | .box x => match (x.ev fr).bind AV.cells with
    | some cs => some (.ptr s.length 0, s ++ [.cells cs])
    | none => none
  | .call _ _ => none

/-- What an instruction touches of the own blocks: 0 nothing, 1 it reads, 2 it writes, 3 it makes one. -/
def CI.touch (fr : Fr) : CI → Nat
  | .ld _ x => match x.ev fr with
    | some (.d _) => 0
    | _ => 1
  | .iad _ x _ => match x.ev fr with
    | some (.vec ..) => 1
    | _ => 0
  | .st .. => 2
  | .app .. => 2
  | .box .. | .bsl .. | .mks .. => 3
  | _ => 0

/-! ### Operations of the program as instructions -/

def leafTys (P : Program) : Nat → TypeId → List TypeId
  | 0, _ => []
  | d + 1, t => match P.underlying t with
    | some (.struct fs) => fs.toList.flatMap fun f => leafTys P d f.type
    | some (.array n e) => (List.range n).flatMap fun _ => leafTys P d e
    | _ => [t]

/-- A constant. -/
def cL (P : Program) (t : TypeId) (v : Value) : AV :=
  match v with
  | .slice none 0 0 => match P.underlying t with
    | some (.slice e) => .nil (P.cellsOf e)
    | _ => .nil 0
  | _ => .d (.sc v)
def cA (P : Program) (t : TypeId) (v : Value) : Option AV :=
  match v with
  | .agg cs => if cs.all (·.oneCell') then some (.agg (cs.toList.zipIdx.map fun (u, i) => cL P ((leafTys P 12 t).getD i 0) u)) else none
  | _ => some (cL P t v)

def cX (P : Program) (t : TypeId) : Operand → Option X
  | .tmp n => some (.t n)
  | .const v => (cA P t v).map .c
  | _ => none
def cXo (P : Program) (t : TypeId) : Option Operand → Option (Option X)
  | none => some none
  | some p => (cX P t p).map some
def cXs (P : Program) : List TypeId → List Operand → Option (List X)
  | _, [] => some []
  | ts, p :: l => match cX P (ts.headD 0) p, cXs P ts.tail l with
    | some x, some xs => some (x :: xs)
    | _, _ => none

theorem cL_ok (P : Program) (t : TypeId) (u : Value) (k : Cfg) (w : World) : RL k w u (cL P t u) := by
  unfold cL
  split
  · split <;> rfl
  · exact RD.sc _

theorem cA_ok {P : Program} {t : TypeId} {v : Value} {x : AV} (h : cA P t v = some x) (k : Cfg) (w : World) : RA k w v x := by
  unfold cA at h
  split at h
  · rename_i cs
    split at h
    · rename_i hc
      obtain rfl := Option.some.inj h
      refine ⟨cs.toList, rfl, by simp, fun u hu => ?_, fun i u d hu hd => ?_⟩
      · exact Array.all_eq_true_iff_forall_mem.1 hc u (by simpa using hu)
      · simp only [List.getElem?_map, List.getElem?_zipIdx, Nat.zero_add] at hd
        rw [hu] at hd
        simp at hd
        subst hd
        exact cL_ok ..
    · cases h
  · obtain rfl := Option.some.inj h
    exact (cL_ok P t v k w).toA

theorem cX_ok {P : Program} {t : TypeId} {p : Operand} {x : X} (h : cX P t p = some x) {k : Cfg} {w : World} {a : Act} {fr : Fr} {d : AV} (hd : x.ev fr = some d)
    (hf : ∀ u y, p = .tmp u → look fr u = some y → RA k w (a.tmps.getD u undef) y) : RA k w (a.eval p) d := by
  cases p with
  | tmp n =>
    simp [cX] at h; subst h
    exact hf n d rfl hd
  | const v =>
    unfold cX at h
    obtain ⟨y, hy, rfl⟩ := Option.map_eq_some_iff.1 h
    obtain rfl := Option.some.inj hd
    exact cA_ok hy k w
  | global g => simp [cX] at h
  | func f => simp [cX] at h

theorem OpWp.value {P : Program} {o : Oper} {a : Act} {w : World} {Q : Value → World → Prop} {v : Value} {w' : World} (h : (execOp a.eval o).run P w = .ok (.value v) w') (hq : Q v w') : OpWp P o a w Q := fun QQ => by
  unfold Oper.wp; rw [h]; exact ⟨v, rfl, hq⟩
theorem OpWp.skip {P : Program} {o : Oper} {a : Act} {w : World} {Q : Value → World → Prop} {w' : World} (h : (execOp a.eval o).run P w = .ok .skip w') (hq : Q undef w') : OpWp P o a w Q := fun QQ => by
  unfold Oper.wp; rw [h]; exact ⟨undef, rfl, hq⟩

/-- An operation that only computes. -/
theorem AOp.pure {P : Program} {o : Oper} {fr : Fr} {s : List AObj} {d : AV} (h : ∀ (B : Nat) (k : Cfg) (a : Act) (w : World), Ops k w a o fr → St B k s w → ∃ v, (execOp a.eval o).run P w = .ok (.value v) w ∧ RA k w v d) : AOp P o fr s d s :=
  fun B k a w ho hs => let ⟨v, h1, h2⟩ := h B k a w ho hs; OpWp.value h1 ⟨k, h2, Ext.refl B k w, hs⟩

theorem run_value {P : Program} {w w' : World} {s : Sem Value} {v : Value} (h : s.run P w = .ok v w') : (do pure (Next.value (← s)) : Sem Next).run P w = .ok (.value v) w' := by
  simp only [Sem.run_bind, h, Result.andThen_ok, Sem.run_pure]
theorem run_unit {P : Program} {w w' : World} {s : Sem Unit} (h : s.run P w = .ok () w') : (do s; pure Next.skip : Sem Next).run P w = .ok .skip w' := by
  simp only [Sem.run_bind, h, Result.andThen_ok, Sem.run_pure]

theorem scOf_ok {k : Cfg} {w : World} {v : Value} {x : Option AV} {u : Value} {y : AV} (hx : x = some y) (h : scOf x = some u) (hr : RA k w v y) : v = u := by
  subst hx
  cases y with
  | d y =>
    cases y with
    | sc z => simp [scOf] at h; subst h; have h2 : RD k.I w v (.sc z) := hr; cases h2; rfl
    | _ => simp [scOf] at h
  | _ => simp [scOf] at h
theorem intA_ok {k : Cfg} {w : World} {v : Value} {x : Option AV} {n : Int} {y : AV} (hx : x = some y) (h : intA x = some n) (hr : RA k w v y) : v = .int .i64 n := by
  subst hx
  refine scOf_ok (x := some y) rfl ?_ hr
  cases y with
  | d y =>
    cases y with
    | sc z =>
      cases z with
      | int kk m => cases kk <;> simp [intA] at h; subst h; rfl
      | _ => simp [intA] at h
    | _ => simp [intA] at h
  | _ => simp [intA] at h
theorem slA_ok {k : Cfg} {w : World} {v : Value} {x : Option AV} {sz : Nat} {rows : List (List D)} {y : AV} (hx : x = some y) (h : slA sz x = some rows) (hr : RA k w v y) : RD k.I w v (.sl sz rows) := by
  subst hx
  have : y.toL = some (.sl sz rows) := by
    cases y with
    | d y =>
      cases y with
      | sl s r => simp only [slA] at h; split at h <;> simp at h; rename_i e; subst e; subst h; rfl
      | _ => simp [slA] at h
    | tsl id s r => simp only [slA] at h; split at h <;> simp at h; rename_i e; subst e; subst h; rfl
    | nil s => simp only [slA] at h; split at h <;> simp at h; rename_i e; subst e; subst h; rfl
    | _ => simp [slA] at h
  cases y with
  | agg cs => simp [AV.toL] at this
  | d y => exact RL.toL (x := .d y) hr this
  | tsl id s r => exact RL.toL (x := .tsl id s r) hr this
  | nil s => exact RL.toL (x := .nil s) hr this
  | ptr id off => simp [AV.toL] at this
  | vec id n sz => simp [AV.toL] at this
  | vptr id n off => simp [AV.toL] at this

theorem run_binS {P : Program} (w : World) {op : BinOp} {u v r : Value} (h : binS op u v = some r) (t : TypeId) (x y : Operand) : (do eqGuard op t x y u v; binOp op t u v : Sem Value).run P w = .ok r w := by
  unfold binS at h
  split at h <;> first
    | (cases h; done)
    | (split at h <;> first | (cases h; done) | (rename_i e; subst e; obtain rfl := Option.some.inj h; simp [eqGuard, binOp, Op.intArith, Op.intCmp, go_sem]; done))
    | (obtain rfl := Option.some.inj h; simp [eqGuard, binOp, Op.stringOp, go_sem]; done)
    | skip
  rename_i a b
  split at h
  · rename_i hle
    obtain rfl := Option.some.inj h
    have : ¬ (((a.size + b.size : Nat) : Int) > IntKind.i64.max) := by
      rw [show IntKind.i64.max = 9223372036854775807 by decide]; omega
    simp only [eqGuard, binOp, Op.stringOp, if_neg this]
    simp [go_sem]
  · cases h
end Go.Ab

namespace Go.Ab
open Go Go.RowKit

def compLen (P : Program) : List Operand → List TypeId → Option CI
  | [x], [t] => match P.underlying t, cX P t x with
    | some (.slice _), some x => some (.len x)
    | some .string, some x => some (.lens x)
    | _, _ => none
  | _, _ => none
def compApp (P : Program) (mu : Bool) : List Operand → List TypeId → Option CI
  | [x, y], [t, t'] => match P.underlying t, cX P t x, cX P t y with
    | some (.slice e), some x, some y => match P.info? e with
      | some j => match j.zero with
        | some z => if t = t' ∧ z.cells.size = j.size ∧ 0 < j.size then some (.app mu e j.size j.bytes x y) else none
        | none => none
      | none => none
    | _, _, _ => none
  | _, _ => none
def compCall (P : Program) (mu : Bool) (c : Call) : Option CI :=
  match c.callee with
  | .builtin .len => compLen P c.args.toList c.argTypes.toList
  | .builtin .append => compApp P mu c.args.toList c.argTypes.toList
  | .value (.func f) => (cXs P c.argTypes.toList c.args.toList).map fun xs => .call f xs
  | _ => none

/-- Parts of a struct, of an array, of a slice's elements. -/
def cParts (P : Program) (place : Nat → Option (Nat × Nat)) (ty : Nat → TypeId) : List (Nat × Operand) → Option (List (Nat × Nat × X))
  | [] => some []
  | (i, p) :: l => match place i, cX P (ty i) p, cParts P place ty l with
    | some (off, size), some x, some l' => some ((off, size, x) :: l')
    | _, _, _ => none

def zCells (P : Program) (t : TypeId) (us : List Value) : List AV := us.zipIdx.map fun (u, i) => cL P ((leafTys P 12 t).getD (i % (leafTys P 12 t).length) 0) u

def compBuild (P : Program) (t : TypeId) (parts : List (Nat × Operand)) : Option CI :=
  match P.info? t, P.underlying t with
  | some it, some (.struct fs) => match it.zero, fs.toList.mapM (fun f => (P.info? f.type).map fun i => (f.offset, i.size)) with
    | some z, some places => if z.cells.all (·.oneCell') then (cParts P (places.toArray[·]?) (fun i => ((fs[i]?).map (·.type)).getD 0) parts).map (.bld (zCells P t z.cells.toList)) else none
    | _, _ => none
  | some it, some (.array _ e) => match it.zero, P.info? e with
    | some z, some ie => if z.cells.all (·.oneCell') then (cParts P (fun i => some (i * ie.size, ie.size)) (fun _ => e) parts).map (.bld (zCells P t z.cells.toList)) else none
    | _, _ => none
  | _, _ => none

def zeros (z : Array Value) (n : Nat) : Array Value := (Array.range n).map (z[· % z.size]!)

def compBsl (P : Program) (mu : Bool) (t : TypeId) (n : Nat) (parts : List (Nat × Operand)) : Option CI :=
  match P.underlying t with
  | some (.slice e) => match P.info? e with
    | some ie => match ie.zero with
      | some z => if 0 < ie.size ∧ n * ie.size ≤ 2 ^ 24 ∧ (zeros z.cells (n * ie.size)).all (·.oneCell') = true then
          (cParts P (fun i => some (i * ie.size, ie.size)) (fun _ => e) parts).map (.bsl mu e ie.size n (zCells P e (zeros z.cells (n * ie.size)).toList)) else none
      | none => none
    | none => none
  | _ => none

/-- A row that is never written again and to which nothing is appended. -/
def compBsf (P : Program) (t : TypeId) (n : Nat) (parts : List (Nat × Operand)) : Option CI :=
  match P.underlying t with
  | some (.slice e) => match P.info? e with
    | some ie => match ie.zero with
      | some z => if 0 < ie.size ∧ n * ie.size ≤ 2 ^ 24 ∧ (zeros z.cells (n * ie.size)).all (·.oneCell') = true then
          (cParts P (fun i => some (i * ie.size, ie.size)) (fun _ => e) parts).map (.bsf ie.size n (zCells P e (zeros z.cells (n * ie.size)).toList)) else none
      | none => none
    | none => none
  | _ => none

/-- The mark of a slot whose row is never written again. -/
def frozen (mus : List Nat) (o : Oper) : Bool := (o.dst.map fun d => mus.contains (d + 100000)).getD false

def compMks (P : Program) (mu : Bool) (t : TypeId) (l c : Operand) : Option CI :=
  match P.underlying t, cX P 0 l, cX P 0 c with
  | some (.slice e), some l, some c => match P.info? e with
    | some ie => match ie.zero with
      | some z => if ie.size = 1 ∧ z.oneCell' = true ∧ 0 < ie.bytes then some (.mks mu e ie.bytes (cL P e z) l c) else none
      | none => none
    | none => none
  | _, _, _ => none

def compOp (P : Program) (mus : List Nat) (o : Oper) : Option CI :=
  match o.op with
  | .move x => (cX P o.type x).map .mov
  | .assign x => (cX P o.type x).map .mov
  | .pick c a b => match cX P 0 c, cX P o.type a, cX P o.type b with
    | some c, some a, some b => some (.pick c a b)
    | _, _, _ => none
  | .load t x => match szOf P t, cX P 0 x with
    | some n, some x => some (.ld n x)
    | _, _ => none
  | .store t x v => match P.info? t, cX P 0 x, cX P t v with
    | some i, some x, some v => some (.st i.size x v)
    | _, _, _ => none
  | .fieldAddr t x f => match P.underlying t, cX P 0 x with
    | some (.struct fs), some x => match fs[f]? with
      | some fd => if P.cellsOf fd.type = 0 then none else some (.fad fd.offset x)
      | none => none
    | _, _ => none
  | .indexAddr t x i => match P.underlying t, cX P 0 x, cX P 0 i with
    | some (.slice e), some x, some i => match P.info? e with
      | some j => some (.iad j.size x i)
      | none => none
    | some (.array n e), some x, some i => match P.info? e with
      | some j => some (.iap n j.size x i)
      | none => none
    | _, _, _ => none
  | .field t x f => match P.underlying t, cX P 0 x with
    | some (.struct fs), some x => match fs[f]? with
      | some fd => match szOf P fd.type with
        | some n => some (.fld fd.offset n x)
        | none => none
      | none => none
    | _, _ => none
  | .extract x i => (cX P 0 x).map fun x => .ext x i
  | .binOp op t x y _ => match cX P t x, cX P t y with
    | some x, some y => some (.bin op x y)
    | _, _ => none
  | .unOp .not _ x => (cX P 0 x).map .not
  | .slice t x lo hi none => match P.underlying t, cX P 0 x, cXo P 0 lo, cXo P 0 hi with
    | some (.slice e), some x, some lo, some hi => match P.info? e with
      | some j => some (.slc j.size x lo hi)
      | none => none
    | _, _, _, _ => none
  | .box t x => (cX P t x).map .box
  | .alloc t => match P.info? t with
    | some i => match i.zero with
      | some z => (cA P t z).map fun c => .box (.c c)
      | none => none
    | none => none
  | .build t parts => compBuild P t parts.toList
  | .buildSlice t n parts => if frozen mus o then compBsf P t n parts.toList else compBsl P ((o.dst.map mus.contains).getD false) t n parts.toList
  | .makeSlice t l c => compMks P ((o.dst.map mus.contains).getD false) t l c
  | .convert src dst x => match P.underlying src, P.underlying dst, cX P 0 x with
    | some (.int _), some (.int k), some x => some (.cnv k x)
    | _, _, _ => none
  | .nilCheck x => (cX P 0 x).map .nck
  | .call c => compCall P ((o.dst.map mus.contains).getD false) c
  | _ => none

section
variable {P : Program} {o : Oper} {fr : Fr} {s s' : List AObj} {d : AV}

theorem ops_x {k : Cfg} {w : World} {a : Act} {o : Oper} {fr : Fr} (h : Ops k w a o fr) {p : Operand} (hp : p ∈ o.op.operands) : ∀ u y, p = .tmp u → look fr u = some y → RA k w (a.tmps.getD u undef) y :=
  fun u y e hl => h u y (by rw [← e]; exact hp) hl

/-- The value of an operand. -/
theorem ev_ok {k : Cfg} {w : World} {a : Act} {o : Oper} {fr : Fr} (ho : Ops k w a o fr) {p : Operand} (hp : p ∈ o.op.operands) {t : TypeId} {x : X} (hx : cX P t p = some x) {c : AV} (hc : x.ev fr = some c) : RA k w (a.eval p) c :=
  cX_ok hx hc (ops_x ho hp)
theorem sc_ok {k : Cfg} {w : World} {a : Act} {o : Oper} {fr : Fr} (ho : Ops k w a o fr) {p : Operand} (hp : p ∈ o.op.operands) {t : TypeId} {x : X} (hx : cX P t p = some x) {u : Value} (hu : scOf (x.ev fr) = some u) : a.eval p = u := by
  cases hc : x.ev fr with
  | none => rw [hc] at hu; cases hu
  | some c => exact scOf_ok hc hu (ev_ok ho hp hx hc)
theorem int_ok {k : Cfg} {w : World} {a : Act} {o : Oper} {fr : Fr} (ho : Ops k w a o fr) {p : Operand} (hp : p ∈ o.op.operands) {t : TypeId} {x : X} (hx : cX P t p = some x) {n : Int} (hu : intA (x.ev fr) = some n) : a.eval p = .int .i64 n := by
  cases hc : x.ev fr with
  | none => rw [hc] at hu; cases hu
  | some c => exact intA_ok hc hu (ev_ok ho hp hx hc)
theorem sl_ok {k : Cfg} {w : World} {a : Act} {o : Oper} {fr : Fr} (ho : Ops k w a o fr) {p : Operand} (hp : p ∈ o.op.operands) {t : TypeId} {x : X} (hx : cX P t p = some x) {sz : Nat} {rows : List (List D)} (hu : slA sz (x.ev fr) = some rows) : RD k.I w (a.eval p) (.sl sz rows) := by
  cases hc : x.ev fr with
  | none => rw [hc] at hu; cases hu
  | some c => exact slA_ok hc hu (ev_ok ho hp hx hc)

theorem ok_mov {x : Operand} {t : TypeId} {y : X} (ho : o.op = .move x ∨ o.op = .assign x) (hx : cX P t x = some y) (h : (CI.mov y).sem fr s = some (d, s')) : AOp P o fr s d s' := by
  simp only [CI.sem] at h
  obtain ⟨c, hc, he⟩ := Option.map_eq_some_iff.1 h
  obtain ⟨rfl, rfl⟩ := Prod.mk.inj he
  refine AOp.pure fun B k a w hops hst => ⟨a.eval x, ?_, ev_ok (p := x) hops (by rcases ho with ho | ho <;> rw [ho] <;> simp [Op.operands]) hx hc⟩
  unfold execOp
  rcases ho with ho | ho <;> rw [ho] <;> rfl

theorem ok_pick {c a b : Operand} {t : TypeId} {x y z : X} (ho : o.op = .pick c a b) (hx : cX P 0 c = some x) (hy : cX P t a = some y) (hz : cX P t b = some z) (h : (CI.pick x y z).sem fr s = some (d, s')) : AOp P o fr s d s' := by
  simp only [CI.sem] at h
  split at h
  · rename_i hc
    obtain ⟨e, he, hh⟩ := Option.map_eq_some_iff.1 h
    obtain ⟨rfl, rfl⟩ := Prod.mk.inj hh
    refine AOp.pure fun B k ac w hops hst => ⟨ac.eval a, ?_, ev_ok (p := a) hops (by rw [ho]; simp [Op.operands]) hy he⟩
    have := sc_ok (p := c) hops (by rw [ho]; simp [Op.operands]) hx hc
    unfold execOp
    rw [ho]
    simp [this, asBool]
  · rename_i hc
    obtain ⟨e, he, hh⟩ := Option.map_eq_some_iff.1 h
    obtain ⟨rfl, rfl⟩ := Prod.mk.inj hh
    refine AOp.pure fun B k ac w hops hst => ⟨ac.eval b, ?_, ev_ok (p := b) hops (by rw [ho]; simp [Op.operands]) hz he⟩
    have := sc_ok (p := c) hops (by rw [ho]; simp [Op.operands]) hx hc
    unfold execOp
    rw [ho]
    simp [this, asBool]
  · cases h

/-- A load. -/
theorem run_load1 {w : World} {p : Addr} {v : Value} (hc : w.cell? p = some v) {t : TypeId} (hs : szOf P t = some none) : (Instr.loadAt t (.pointer (some p))).run P w = .ok v w := by
  obtain ⟨d, i, hu, hi, hn⟩ := szOf_inv hs
  have hr : d.isRow = false := by cases h : d.isRow <;> simp [h] at hn ⊢
  simp [Instr.loadAt, Instr.sureAddr, loadVar, run_isAgg hu, hr, hc]

theorem szOf_row {t : TypeId} {m : Nat} (hs : szOf P t = some (some m)) : ∃ d, P.underlying t = some d ∧ d.isRow = true ∧ (P.info? t).map (·.size) = some m := by
  obtain ⟨d, i, hu, hi, hn⟩ := szOf_inv hs
  have hr : d.isRow = true := by cases h : d.isRow <;> simp [h] at hn ⊢
  rw [hr] at hn
  simp at hn
  exact ⟨d, hu, hr, by rw [hi]; simp [hn]⟩

theorem run_loadm {w : World} {b off : Nat} {us : List Value} (hc : w.rangeAt b off us) {t : TypeId} (hs : szOf P t = some (some us.length)) : (Instr.loadAt t (.pointer (some ⟨b, off, none⟩))).run P w = .ok (.agg us.toArray) w := by
  obtain ⟨d, h1, h2, h3⟩ := szOf_row hs
  simp only [Instr.loadAt, Instr.sureAddr, Sem.run_bind, Sem.run_pure, Result.andThen_ok, run_loadVar_mid w b off t us d hc h1 h2 h3]

theorem cells_at {w : World} {b t : Nat} {us : List Value} (h : w.heap[b]? = some (.cells us.toArray t (0, 0))) (i : Nat) : w.cell? ⟨b, i, none⟩ = us[i]? := by
  rw [cell_of_row w b i _ t (0, 0) h]; simp

/-- Where the cells of a row that is written lie. -/
theorem vec_at {B : Nat} {k : Cfg} {w : World} (hst : St B k s w) {id e sz n : Nat} {ds : List AV} (hid : s[id]? = some (.vec e sz ds)) (hsz : 0 < sz) (hn : ds.length = n * sz) {b : Nat}
    (hb : ∃ u n', k.own[id]? = some (.row u n') ∧ n ≤ n' ∧ (n = n' → u.ownBlock = some b)) :
    ∃ u xs cap cur, k.own[id]? = some (.row u n) ∧ w.ownsRow B e sz u n xs ∧ u = .slice (some ⟨b, 0, none⟩) n cap ∧ B ≤ b ∧ w.heap[b]? = some (.cells cur e (0, 0)) ∧ n ≤ cap ∧ cap ≤ maxLen ∧ cur.size = cap * sz ∧ cur.toList.take (n * sz) = xs ∧ RAs k w xs ds ∧ k.I b = 0 ∧ ∀ (i : Nat) (x : Value), xs[i]? = some x → w.cell? ⟨b, i, none⟩ = some x := by
  obtain ⟨u, n', h1, h2, h3⟩ := hb
  obtain ⟨u2, n2, xs, g1, g2, g3, g4, g5⟩ := hst.vec id e sz ds hid
  rw [h1] at g1; cases g1
  have hnn : n = n' := by
    rw [hn] at g4
    exact Nat.eq_of_mul_eq_mul_right hsz g4
  subst hnn
  have hbk := h3 rfl
  rcases g2.2 with ⟨rfl, _⟩ | ⟨g, cap, cur, rfl, k2, k3, k4, k5, k6, k7⟩
  · simp [Value.ownBlock] at hbk
  · simp [Value.ownBlock] at hbk
    subst hbk
    refine ⟨_, xs, cap, cur, h1, g2, rfl, k2, k3, k4, k5, k6, k7, g5, g3 _ rfl, fun i x hx => ?_⟩
    have := g2.cells (g := g) rfl i x hx
    rw [Addr.add_mid, Nat.zero_add] at this
    exact this

theorem ok_ld {t : TypeId} {p : Operand} {n : Option Nat} {x : X} (ho : o.op = .load t p) (hn : szOf P t = some n) (hx : cX P 0 p = some x) (h : (CI.ld n x).sem fr s = some (d, s')) : AOp P o fr s d s' := by
  have hp : p ∈ o.op.operands := by rw [ho]; simp [Op.operands]
  have hrun : ∀ (a : Act) (w : World) (v : Value), (Instr.loadAt t (a.eval p)).run P w = .ok v w → (execOp a.eval o).run P w = .ok (.value v) w := fun a w v hr => by
    unfold execOp; rw [ho]; exact run_value hr
  cases n with
  | none =>
    simp only [CI.sem] at h
    split at h
    · rename_i c ds hc
      obtain ⟨rfl, rfl⟩ := Prod.mk.inj (Option.some.inj h)
      refine AOp.pure fun B k a w hops hst => ?_
      have hv : RD k.I w (a.eval p) (.ref (c :: ds)) := ev_ok hops hp hx hc
      generalize hu : a.eval p = u at hv
      cases hv with
      | ref b off us ds h1 h2 h3 h4 =>
        cases us with
        | nil => simp at h1
        | cons u us =>
          refine ⟨u, hrun a w u ?_, h4 0 u c rfl rfl⟩
          rw [hu]
          exact run_load1 (by have := (h3 0 u rfl).2; simpa using this) hn
    · rename_i id off hc
      split at h
      · rename_i cs hid
        obtain ⟨e, he, hh⟩ := Option.map_eq_some_iff.1 h
        obtain ⟨rfl, rfl⟩ := Prod.mk.inj hh
        refine AOp.pure fun B k a w hops hst => ?_
        obtain ⟨b, hb, hv⟩ : RL k w (a.eval p) (.ptr id off) := ev_ok hops hp hx hc
        obtain ⟨b', t', us, g1, g2, g3⟩ := hst.cells id cs hid
        rw [hb] at g1; simp at g1; subst g1
        obtain ⟨u, hu1, hu2, hu3⟩ := g3.get he
        refine ⟨u, hrun a w u ?_, hu3.toA⟩
        rw [hv]
        exact run_load1 (by rw [cells_at g2]; exact hu1) hn
      · cases h
    · rename_i id m off hc
      split at h
      · rename_i e sz ds hid
        split at h
        · rename_i hcc
          obtain ⟨x, he, hh⟩ := Option.map_eq_some_iff.1 h
          obtain ⟨rfl, rfl⟩ := Prod.mk.inj hh
          refine AOp.pure fun B k a w hops hst => ?_
          obtain ⟨b, hv, hb⟩ : RL k w (a.eval p) (.vptr id m off) := ev_ok hops hp hx hc
          obtain ⟨u, xs, cap, cur, g1, g2, g3, g4, g5, g6, g7, g8, g9, g10, g11, g12⟩ := vec_at hst hid hcc.1 hcc.2 hb
          obtain ⟨v, hv1, hv2, hv3⟩ := g10.get he
          refine ⟨v, hrun a w v ?_, hv3.toA⟩
          rw [hv]
          exact run_load1 (g12 _ _ hv1) hn
        · cases h
      · cases h
    · cases h
  | some m =>
    simp only [CI.sem] at h
    split at h
    · rename_i ds hc
      split at h
      · rename_i hm
        obtain ⟨rfl, rfl⟩ := Prod.mk.inj (Option.some.inj h)
        refine AOp.pure fun B k a w hops hst => ?_
        have hv : RD k.I w (a.eval p) (.ref ds) := ev_ok hops hp hx hc
        generalize hu : a.eval p = u at hv
        cases hv with
        | ref b off us ds h1 h2 h3 h4 =>
          have h5 : RDs k.I w (us.take m) (ds.take m) := RDs.take ⟨h1, h2, h4⟩ m
          have hlen : (us.take m).length = m := by simp [h1]; omega
          refine ⟨.agg (us.take m).toArray, hrun a w _ ?_, .agg _ _ h5.1 h5.2.1 h5.2.2⟩
          rw [hu]
          refine run_loadm (fun j v hj => ?_) (by rw [hlen]; exact hn)
          rw [List.getElem?_take] at hj
          split at hj
          · exact (h3 j v hj).2
          · cases hj
      · cases h
    · rename_i id off hc
      split at h
      · rename_i cs hid
        split at h
        · rename_i hm
          obtain ⟨rfl, rfl⟩ := Prod.mk.inj (Option.some.inj h)
          refine AOp.pure fun B k a w hops hst => ?_
          obtain ⟨b, hb, hv⟩ : RL k w (a.eval p) (.ptr id off) := ev_ok hops hp hx hc
          obtain ⟨b', t', us, g1, g2, g3⟩ := hst.cells id cs hid
          rw [hb] at g1; simp at g1; subst g1
          have h5 := (g3.drop off).take m
          have hlen : ((us.drop off).take m).length = m := by rw [h5.1]; simp; omega
          refine ⟨.agg ((us.drop off).take m).toArray, hrun a w _ ?_, _, rfl, h5⟩
          rw [hv]
          refine run_loadm (fun j v hj => ?_) (by rw [hlen]; exact hn)
          rw [List.getElem?_take] at hj
          split at hj
          · rw [List.getElem?_drop] at hj
            rw [cells_at g2]; exact hj
          · cases hj
        · cases h
      · cases h
    · rename_i id n' off hc
      split at h
      · rename_i e sz ds hid
        split at h
        · rename_i hcc
          obtain ⟨c1, c2, c3⟩ := hcc
          obtain ⟨rfl, rfl⟩ := Prod.mk.inj (Option.some.inj h)
          refine AOp.pure fun B k a w hops hst => ?_
          obtain ⟨b, hv, hb⟩ : RL k w (a.eval p) (.vptr id n' off) := ev_ok hops hp hx hc
          obtain ⟨u, xs, cap, cur, g1, g2, g3, g4, g5, g6, g7, g8, g9, g10, g11, g12⟩ := vec_at hst hid c1 c2 hb
          have h5 := (g10.drop off).take m
          have hlen : ((xs.drop off).take m).length = m := by rw [h5.1]; simp; omega
          refine ⟨.agg ((xs.drop off).take m).toArray, hrun a w _ ?_, _, rfl, h5⟩
          rw [hv]
          refine run_loadm (fun j v hj => ?_) (by rw [hlen]; exact hn)
          rw [List.getElem?_take] at hj
          split at hj
          · rw [List.getElem?_drop] at hj
            exact g12 _ _ hj
          · cases hj
        · cases h
      · cases h
    · cases h

theorem ok_fad {t : TypeId} {p : Operand} {f : Nat} {fs : Array Field} {fd : Field} {x : X} (ho : o.op = .fieldAddr t p f) (hu : P.underlying t = some (.struct fs)) (hf : fs[f]? = some fd) (hz : P.cellsOf fd.type ≠ 0) (hx : cX P 0 p = some x)
    (h : (CI.fad fd.offset x).sem fr s = some (d, s')) : AOp P o fr s d s' := by
  have hp : p ∈ o.op.operands := by rw [ho]; simp [Op.operands]
  have hrun : ∀ (a : Act) (w : World) (b off : Nat), a.eval p = .pointer (some ⟨b, off, none⟩) → (execOp a.eval o).run P w = .ok (.value (.pointer (some ⟨b, off + fd.offset, none⟩))) w := fun a w b off he => by
    unfold execOp; rw [ho]
    refine run_value ?_
    have hsz : (sizeOf fd.type).run P w = .ok (P.cellsOf fd.type) w := by
      unfold Program.cellsOf at hz ⊢
      unfold sizeOf typeInfo
      cases hi : P.info? fd.type with
      | none => simp [hi] at hz
      | some i => simp [hi]
    simp only [Instr.fieldAt, Sem.run_bind, run_underlying hu, Result.andThen_ok, hf, he, Instr.sureAddr, Sem.run_pure, fieldPlace, hsz, if_neg hz, Addr.add_mid]
  simp only [CI.sem] at h
  split at h
  · rename_i ds hc
    obtain ⟨rfl, rfl⟩ := Prod.mk.inj (Option.some.inj h)
    refine AOp.pure fun B k a w hops hst => ?_
    have hv : RD k.I w (a.eval p) (.ref ds) := ev_ok hops hp hx hc
    generalize hu' : a.eval p = u at hv
    cases hv with
    | ref b off us ds h1 h2 h3 h4 =>
      refine ⟨_, hrun a w b off hu', ?_⟩
      have h5 : RDs k.I w (us.drop fd.offset) (ds.drop fd.offset) := RDs.drop ⟨h1, h2, h4⟩ fd.offset
      refine .ref _ _ _ _ h5.1 h5.2.1 (fun i u hu => ?_) h5.2.2
      rw [List.getElem?_drop] at hu
      rw [Nat.add_assoc]
      exact h3 _ u hu
  · rename_i id off hc
    obtain ⟨rfl, rfl⟩ := Prod.mk.inj (Option.some.inj h)
    refine AOp.pure fun B k a w hops hst => ?_
    obtain ⟨b, hb, hv⟩ : RL k w (a.eval p) (.ptr id off) := ev_ok hops hp hx hc
    exact ⟨_, hrun a w b off hv, b, hb, rfl⟩
  · rename_i id n off hc
    obtain ⟨rfl, rfl⟩ := Prod.mk.inj (Option.some.inj h)
    refine AOp.pure fun B k a w hops hst => ?_
    obtain ⟨b, hv, hb⟩ : RL k w (a.eval p) (.vptr id n off) := ev_ok hops hp hx hc
    exact ⟨_, hrun a w b off hv, b, rfl, hb⟩
  · cases h

theorem ok_iad {t e : TypeId} {j : TypeInfo} {p q : Operand} {x y : X} (ho : o.op = .indexAddr t p q) (hu : P.underlying t = some (.slice e)) (hj : P.info? e = some j) (hx : cX P 0 p = some x) (hy : cX P 0 q = some y)
    (h : (CI.iad j.size x y).sem fr s = some (d, s')) : AOp P o fr s d s' := by
  have hp : p ∈ o.op.operands := by rw [ho]; simp [Op.operands]
  have hq : q ∈ o.op.operands := by rw [ho]; simp [Op.operands]
  have hrun : ∀ (a : Act) (w : World) (b off m c : Nat) (n : Int), a.eval p = .slice (some ⟨b, off, none⟩) m c → a.eval q = .int .i64 n → 0 ≤ n → n < m → (execOp a.eval o).run P w = .ok (.value (.pointer (some ⟨b, off + n.toNat * j.size, none⟩))) w := fun a w b off m c n h1 h2 h3 h4 => by
    unfold execOp; rw [ho]
    refine run_value ?_
    have hcond : 0 ≤ n ∧ n < (m : Int) := ⟨h3, h4⟩
    simp only [Instr.indexAt, h1, h2, asIntOf, Sem.run_bind, Sem.run_pure, Result.andThen_ok, run_underlying hu, if_pos hcond, sizeOf, typeInfo, run_program, hj, Addr.add_mid]
  simp only [CI.sem] at h
  split at h
  · cases h
  · rename_i n hi
    split at h
    · rename_i h0
      split at h
      · rename_i id m sz' hc
        split at h
        · rename_i e' sz2 ds hid
          split at h
          · rename_i hcc
            obtain ⟨rfl, rfl, c1, c2, c3⟩ := hcc
            obtain ⟨rfl, rfl⟩ := Prod.mk.inj (Option.some.inj h)
            refine AOp.pure fun B k a w hops hst => ?_
            obtain ⟨⟨ad, c, hv⟩, u, n', hk, hle, heq⟩ : RL k w (a.eval p) (.vec id m j.size) := ev_ok hops hp hx hc
            obtain ⟨u2, n2, xs, g1, g2, g3, g4, g5⟩ := hst.vec id e' j.size ds hid
            rw [hk] at g1; cases g1
            have hmn : m = n' := by
              rw [c2] at g4
              exact Nat.eq_of_mul_eq_mul_right c1 g4
            subst hmn
            have hvu := heq rfl
            rw [hvu] at hv
            rcases g2.2 with ⟨_, h9⟩ | ⟨g, cap, cur, hvv, k2, _⟩
            · omega
            · refine ⟨_, hrun a w g 0 m cap n (by rw [hvu]; exact hvv) (int_ok hops hq hy hi) h0 (by omega), g, by rw [Nat.zero_add], u, m, hk, Nat.le_refl _, fun _ => by rw [hvv]; rfl⟩
          · cases h
        · cases h
      · split at h
        · rename_i rows hr
          split at h
          · rename_i r hrow
            obtain ⟨rfl, rfl⟩ := Prod.mk.inj (Option.some.inj h)
            refine AOp.pure fun B k a w hops hst => ?_
            have hv := sl_ok hops hp hx hr
            obtain ⟨b, off, c, hv2, hv3⟩ := hv.sl_at hrow
            have hlt : n.toNat < rows.length := (List.getElem?_eq_some_iff.1 hrow).1
            exact ⟨_, hrun a w b off rows.length c n hv2 (int_ok hops hq hy hi) h0 (by omega), hv3⟩
          · cases h
        · cases h
    · cases h

theorem ok_fld {t : TypeId} {p : Operand} {f : Nat} {fs : Array Field} {fd : Field} {n : Option Nat} {x : X} (ho : o.op = .field t p f) (hu : P.underlying t = some (.struct fs)) (hf : fs[f]? = some fd) (hn : szOf P fd.type = some n) (hx : cX P 0 p = some x)
    (h : (CI.fld fd.offset n x).sem fr s = some (d, s')) : AOp P o fr s d s' := by
  have hp : p ∈ o.op.operands := by rw [ho]; simp [Op.operands]
  cases n with
  | none =>
    simp only [CI.sem] at h
    split at h
    · rename_i cs hc
      obtain ⟨c, hc1, hc2⟩ := Option.bind_eq_some_iff.1 hc
      obtain ⟨e, he, hh⟩ := Option.map_eq_some_iff.1 h
      obtain ⟨rfl, rfl⟩ := Prod.mk.inj hh
      refine AOp.pure fun B k a w hops hst => ?_
      obtain ⟨us, hv, hus⟩ := (ev_ok hops hp hx hc1).row hc2
      obtain ⟨u, hu1, hu2, hu3⟩ := hus.get he
      refine ⟨u, ?_, hu3.toA⟩
      unfold execOp; rw [ho]
      refine run_value ?_
      obtain ⟨dd, i, hu2, hi, hnn⟩ := szOf_inv hn
      have hr : dd.isRow = false := by cases h : dd.isRow <;> simp [h] at hnn ⊢
      have hagg : (isAgg fd.type).run P w = .ok false w := by rw [run_isAgg hu2, hr]
      have hu1' : us.toArray[fd.offset]? = some u := by simpa using hu1
      simp only [Instr.field, hv, Sem.run_bind, run_underlying hu, Result.andThen_ok, hf, asAgg, Sem.run_pure, part, hagg, Bool.false_eq_true, if_false, hu1']
    · cases h
  | some m =>
    simp only [CI.sem] at h
    split at h
    · rename_i cs hc
      obtain ⟨c, hc1, hc2⟩ := Option.bind_eq_some_iff.1 hc
      split at h
      · rename_i hm
        obtain ⟨rfl, rfl⟩ := Prod.mk.inj (Option.some.inj h)
        refine AOp.pure fun B k a w hops hst => ?_
        obtain ⟨us, hv, hus⟩ := (ev_ok hops hp hx hc1).row hc2
        have h5 := (hus.drop fd.offset).take m
        refine ⟨.agg ((us.drop fd.offset).take m).toArray, ?_, _, rfl, h5⟩
        unfold execOp; rw [ho]
        refine run_value ?_
        obtain ⟨dd, h1, h2, h3⟩ := szOf_row hn
        have hagg : (isAgg fd.type).run P w = .ok true w := by rw [run_isAgg h1, h2]
        cases hi : P.info? fd.type with
        | none => simp [hi] at h3
        | some i =>
          simp [hi] at h3
          have hex : us.toArray.extract fd.offset (fd.offset + m) = ((us.drop fd.offset).take m).toArray := by
            apply Array.ext'; simp [List.take_drop]
          simp only [Instr.field, hv, Sem.run_bind, run_underlying hu, Result.andThen_ok, hf, asAgg, Sem.run_pure, part, hagg, if_true, sizeOf, typeInfo, run_program, hi, h3, hex]
      · cases h
    · cases h

theorem ok_ext {p : Operand} {i : Nat} {x : X} (ho : o.op = .extract p i) (hx : cX P 0 p = some x) (h : (CI.ext x i).sem fr s = some (d, s')) : AOp P o fr s d s' := by
  have hp : p ∈ o.op.operands := by rw [ho]; simp [Op.operands]
  simp only [CI.sem] at h
  split at h
  · rename_i ds hc
    obtain ⟨e, he, hh⟩ := Option.map_eq_some_iff.1 h
    obtain ⟨rfl, rfl⟩ := Prod.mk.inj hh
    refine AOp.pure fun B k a w hops hst => ?_
    have hv : RD k.I w (a.eval p) (.tup ds) := ev_ok hops hp hx hc
    generalize hu' : a.eval p = u at hv
    cases hv with
    | tup us ds h1 h2 =>
      have hi := (List.getElem?_eq_some_iff.1 he).1
      have hus : us[i]? = some us[i] := List.getElem?_eq_getElem (by omega)
      refine ⟨us[i], ?_, h2 i _ e hus he⟩
      unfold execOp; rw [ho]
      refine run_value ?_
      have : us.toArray[i]? = some us[i] := by simpa using hus
      simp only [Instr.extract, hu', this, Sem.run_pure]
  · cases h

theorem ok_bin {op : BinOp} {t t' : TypeId} {p q : Operand} {x y : X} (ho : o.op = .binOp op t p q t') (hx : cX P t p = some x) (hy : cX P t q = some y) (h : (CI.bin op x y).sem fr s = some (d, s')) : AOp P o fr s d s' := by
  have hp : p ∈ o.op.operands := by rw [ho]; simp [Op.operands]
  have hq : q ∈ o.op.operands := by rw [ho]; simp [Op.operands]
  simp only [CI.sem] at h
  split at h
  · rename_i u v hu hv
    obtain ⟨r, hr, hh⟩ := Option.map_eq_some_iff.1 h
    obtain ⟨rfl, rfl⟩ := Prod.mk.inj hh
    refine AOp.pure fun B k a w hops hst => ⟨r, ?_, RD.sc r⟩
    unfold execOp; rw [ho]
    refine run_value ?_
    rw [sc_ok hops hp hx hu, sc_ok hops hq hy hv]
    exact run_binS w hr t p q
  · cases h

theorem ok_not {t : TypeId} {p : Operand} {x : X} (ho : o.op = .unOp .not t p) (hx : cX P 0 p = some x) (h : (CI.not x).sem fr s = some (d, s')) : AOp P o fr s d s' := by
  have hp : p ∈ o.op.operands := by rw [ho]; simp [Op.operands]
  simp only [CI.sem] at h
  split at h
  · rename_i b hb
    obtain ⟨rfl, rfl⟩ := Prod.mk.inj (Option.some.inj h)
    refine AOp.pure fun B k a w hops hst => ⟨.bool !b, ?_, RD.sc _⟩
    unfold execOp; rw [ho]
    refine run_value ?_
    rw [sc_ok hops hp hx hb]
    simp [Op.unary]
  · cases h

theorem sz_len {I : Nat → Nat} {w : World} {v : Value} {sz : Nat} {rows : List (List D)} (h : RD I w v (.sl sz rows)) : ∃ a c, v = .slice a rows.length c := by
  obtain ⟨a, c, us, h1, _⟩ := h.sl_inv; exact ⟨a, c, h1⟩

theorem ok_len {t e : TypeId} {p : Operand} {x : X} (ho : o.op = .call { callee := .builtin .len, args := #[p], argTypes := #[t] }) (hu : P.underlying t = some (.slice e)) (hx : cX P t p = some x)
    (h : (CI.len x).sem fr s = some (d, s')) : AOp P o fr s d s' := by
  have hp : p ∈ o.op.operands := by rw [ho]; simp [Op.operands, Call.operands]
  have sl : ∀ (rows : List (List D)) (sz : Nat), d = .d (.sc (.int .i64 rows.length)) → s' = s → (∀ (k : Cfg) (w : World) (a : Act), Ops k w a o fr → RD k.I w (a.eval p) (.sl sz rows)) → AOp P o fr s d s' := by
    rintro rows sz rfl rfl hv
    refine AOp.pure fun B k a w hops hst => ⟨.int .i64 rows.length, ?_, RD.sc _⟩
    obtain ⟨ad, c, hv2⟩ := sz_len (hv k w a hops)
    unfold execOp; rw [ho]
    simp only [resolve, invoke, builtin, Sem.run_bind, Sem.run_pure, Result.andThen_ok, List.map_toArray, List.map_cons, List.map_nil, hv2]
    simp [Builtin.len_, run_underlying hu, goInt]
  simp only [CI.sem] at h
  split at h
  · rename_i sz rows hc
    obtain ⟨rfl, rfl⟩ := Prod.mk.inj (Option.some.inj h)
    exact sl rows sz rfl rfl (fun k w a hops => ev_ok hops hp hx hc)
  · rename_i id sz rows hc
    obtain ⟨rfl, rfl⟩ := Prod.mk.inj (Option.some.inj h)
    exact sl rows sz rfl rfl (fun k w a hops => (show RL k w _ (.tsl id sz rows) from ev_ok hops hp hx hc).1)
  · rename_i sz hc
    obtain ⟨rfl, rfl⟩ := Prod.mk.inj (Option.some.inj h)
    exact sl [] sz rfl rfl (fun k w a hops => RL.toL (x := .nil sz) (ev_ok hops hp hx hc) rfl)
  · rename_i id n sz hc
    obtain ⟨rfl, rfl⟩ := Prod.mk.inj (Option.some.inj h)
    refine AOp.pure fun B k a w hops hst => ⟨.int .i64 n, ?_, RD.sc _⟩
    obtain ⟨⟨ad, c, hv2⟩, _⟩ : RL k w (a.eval p) (.vec id n sz) := ev_ok hops hp hx hc
    unfold execOp; rw [ho]
    simp only [resolve, invoke, builtin, Sem.run_bind, Sem.run_pure, Result.andThen_ok, List.map_toArray, List.map_cons, List.map_nil, hv2]
    simp [Builtin.len_, run_underlying hu, goInt]
  · cases h

theorem ok_lens {t : TypeId} {p : Operand} {x : X} (ho : o.op = .call { callee := .builtin .len, args := #[p], argTypes := #[t] }) (hu : P.underlying t = some .string) (hx : cX P t p = some x)
    (h : (CI.lens x).sem fr s = some (d, s')) : AOp P o fr s d s' := by
  have hp : p ∈ o.op.operands := by rw [ho]; simp [Op.operands, Call.operands]
  simp only [CI.sem] at h
  split at h
  · rename_i b hc
    obtain ⟨rfl, rfl⟩ := Prod.mk.inj (Option.some.inj h)
    refine AOp.pure fun B k a w hops hst => ⟨.int .i64 b.size, ?_, RD.sc _⟩
    unfold execOp; rw [ho]
    simp only [resolve, invoke, builtin, Sem.run_bind, Sem.run_pure, Result.andThen_ok, List.map_toArray, List.map_cons, List.map_nil, sc_ok hops hp hx hc]
    simp [Builtin.len_, run_underlying hu, goInt]
  · cases h

theorem boundA_ok {k : Cfg} {w : World} {a : Act} (hops : Ops k w a o fr) {q : Option Operand} (hq : ∀ p, q = some p → p ∈ o.op.operands) {y : Option X} (hy : cXo P 0 q = some y) {dft : Nat} {n : Int} (hn : boundA fr dft y = some n) :
    (q = none ∧ n = dft) ∨ ∃ p, q = some p ∧ a.eval p = .int .i64 n := by
  cases q with
  | none => simp [cXo] at hy; subst hy; simp [boundA] at hn; exact .inl ⟨rfl, hn.symm⟩
  | some p =>
    unfold cXo at hy
    obtain ⟨x, hx, rfl⟩ := Option.map_eq_some_iff.1 hy
    exact .inr ⟨p, rfl, int_ok hops (hq p rfl) hx hn⟩

theorem ok_slc {t e : TypeId} {j : TypeInfo} {p : Operand} {lo hi : Option Operand} {x : X} {l h2 : Option X} (ho : o.op = .slice t p lo hi none) (hu : P.underlying t = some (.slice e)) (hj : P.info? e = some j) (hx : cX P 0 p = some x) (hl : cXo P 0 lo = some l) (hh : cXo P 0 hi = some h2)
    (h : (CI.slc j.size x l h2).sem fr s = some (d, s')) : AOp P o fr s d s' := by
  have hp : p ∈ o.op.operands := by rw [ho]; simp [Op.operands]
  have hlo : ∀ q, lo = some q → q ∈ o.op.operands := fun q hq => by rw [ho, hq]; simp [Op.operands]
  have hhi : ∀ q, hi = some q → q ∈ o.op.operands := fun q hq => by rw [ho, hq]; simp [Op.operands]
  simp only [CI.sem] at h
  split at h
  · rename_i rows hr
    split at h
    · rename_i n m hn hm
      split at h
      · rename_i hc
        obtain ⟨c1, c2, c3⟩ := hc
        obtain ⟨rfl, rfl⟩ := Prod.mk.inj (Option.some.inj h)
        refine AOp.pure fun B k a w hops hst => ?_
        have hv := sl_ok hops hp hx hr
        obtain ⟨ad, c, hv2⟩ := sz_len hv
        rw [hv2] at hv
        have hpart := hv.sl_part (lo := n.toNat) (hi := m.toNat) (by omega) (by omega)
        have hcap : rows.length ≤ c := by
          obtain ⟨a', c', us, e1, _, e3, _⟩ := hv.sl_inv
          cases e1; exact e3
        refine ⟨_, ?_, hpart⟩
        unfold execOp; rw [ho]
        refine run_value ?_
        have hb : (Instr.sliceBounds true rows.length c (lo.map a.eval) (hi.map a.eval) none).run P w = .ok (n.toNat, m.toNat, c) w := by
          have r1 : ∀ code, (Instr.sliceBound (.int .i64 m) c code).run P w = .ok m.toNat w := fun code => run_sliceBound w .i64 m c _ (by omega) (by omega)
          have r2 : ∀ code, (Instr.sliceBound (.int .i64 n) m.toNat code).run P w = .ok n.toNat w := fun code => run_sliceBound w .i64 n m.toNat _ c1 (by omega)
          rcases boundA_ok hops hhi hh hm with ⟨rfl, rfl⟩ | ⟨q, rfl, he⟩ <;> rcases boundA_ok hops hlo hl hn with ⟨rfl, rfl⟩ | ⟨q', rfl, he'⟩
          · simp [Instr.sliceBounds]
          · have r3 : ∀ code, (Instr.sliceBound (.int .i64 n) rows.length code).run P w = .ok n.toNat w := fun code => by simpa using r2 code
            simp [Instr.sliceBounds, he', r3]
          · simp [Instr.sliceBounds, he, r1]
          · simp [Instr.sliceBounds, he, he', r1, r2]
        simp only [Instr.sliceAt, Instr.slice, hv2, Option.map_none, Sem.run_bind, run_underlying hu, Result.andThen_ok, hb, sizeOf, typeInfo, run_program, hj, Sem.run_pure]
      · cases h
    · cases h
  · cases h

theorem ok_box {t : TypeId} {p : Operand} {x : X} (ho : o.op = .box t p) (hx : cX P t p = some x) (h : (CI.box x).sem fr s = some (d, s')) : AOp P o fr s d s' := by
  have hp : p ∈ o.op.operands := by rw [ho]; simp [Op.operands]
  simp only [CI.sem] at h
  split at h
  · rename_i cs hc
    obtain ⟨c, hc1, hc2⟩ := Option.bind_eq_some_iff.1 hc
    obtain ⟨rfl, rfl⟩ := Prod.mk.inj (Option.some.inj h)
    intro B k a w hops hst
    have hcells := (ev_ok hops hp hx hc1).cells hc2
    have hrun : (execOp a.eval o).run P w = .ok (.value (.pointer (some ⟨w.heap.size, 0, none⟩))) (w.alloc (.cells (a.eval p).cells t)) := by
      unfold execOp; rw [ho]
      refine run_value ?_
      simp only [Instr.box, newVar, newRow, Sem.run_bind, Sem.run_pure, run_newObj, Result.andThen_ok]
      rfl
    have hb : Below w.heap.size w (w.alloc (.cells (a.eval p).cells t)) := (Below.refl _ _).alloc (Nat.le_refl _) _
    have hh : (w.alloc (.cells (a.eval p).cells t)).heap[w.heap.size]? = some (.cells (a.eval p).cells t (0, 0)) := heap_alloc_new w _
    have hext : Ext B k w ⟨updI k.I w.heap.size 0, k.own ++ [.blk w.heap.size]⟩ (w.alloc (.cells (a.eval p).cells t)) :=
      Ext.fresh hst.base hb (fun b hb => updI_ne _ _ (by omega)) _ fun id o' ho => ⟨o', getElem?_snoc_old _ ho, OwnLe.refl _⟩
    obtain ⟨he, hs2⟩ := hst.new hb (by simp) 0 (.blk w.heap.size) (.cells cs) rfl (fun _ _ => rfl)
      (fun ds hds => by cases hds; exact ⟨t, _, rfl, by simpa using hh, hcells.mono hext⟩) (fun _ _ _ hrow => by cases hrow) (fun _ _ _ hrow => by cases hrow)
    exact OpWp.value hrun ⟨_, ⟨w.heap.size, by rw [← hst.len]; simp, rfl⟩, he, hs2⟩
  · cases h

/-- A call. -/
theorem cXs_ok : ∀ {ts : List TypeId} {ps : List Operand} {xs : List X}, cXs P ts ps = some xs → ∀ (i : Nat) (x : X), xs[i]? = some x → ∃ p t, ps[i]? = some p ∧ cX P t p = some x
  | _, [], xs, h => by simp [cXs] at h; subst h; simp
  | ts, p :: ps, xs, h => by
    unfold cXs at h
    split at h
    · rename_i x xs' h1 h2
      obtain rfl := Option.some.inj h
      intro i y hy
      cases i with
      | zero => simp at hy; subst hy; exact ⟨p, _, rfl, h1⟩
      | succ i => exact cXs_ok h2 i y (by simpa using hy)
    · cases h
theorem cXs_len : ∀ {ts : List TypeId} {ps : List Operand} {xs : List X}, cXs P ts ps = some xs → xs.length = ps.length
  | _, [], xs, h => by simp [cXs] at h; subst h; rfl
  | ts, p :: ps, xs, h => by
    unfold cXs at h
    split at h
    · rename_i x xs' h1 h2
      obtain rfl := Option.some.inj h
      simp [cXs_len h2]
    · cases h

/-- The data of operands. -/
def evs (fr : Fr) : List X → Option (List D)
  | [] => some []
  | x :: l => match (x.ev fr).bind AV.toD, evs fr l with
    | some d, some ds => some (d :: ds)
    | _, _ => none

theorem evs_get : ∀ {xs : List X} {ds : List D}, evs fr xs = some ds → ds.length = xs.length ∧ ∀ (i : Nat) (d : D), ds[i]? = some d → ∃ x c, xs[i]? = some x ∧ x.ev fr = some c ∧ c.toD = some d
  | [], ds, h => by simp [evs] at h; subst h; simp
  | x :: xs, ds, h => by
    unfold evs at h
    split at h
    · rename_i d ds' h1 h2
      obtain rfl := Option.some.inj h
      obtain ⟨k1, k2⟩ := evs_get h2
      refine ⟨by simp [k1], fun i y hy => ?_⟩
      cases i with
      | zero =>
        simp at hy; subst hy
        obtain ⟨c, hc1, hc2⟩ := Option.bind_eq_some_iff.1 h1
        exact ⟨x, c, rfl, hc1, hc2⟩
      | succ i => exact k2 i y (by simpa using hy)
    · cases h

theorem ok_call {f : FuncId} {ps : Array Operand} {ts : Array TypeId} {xs : List X} (ho : o.op = .call { callee := .value (.func f), args := ps, argTypes := ts }) (hx : cXs P ts.toList ps.toList = some xs)
 {ds : List D} (hd : evs fr xs = some ds) {r : D} (hf : AFn P f ds r) : AOp P o fr s (.d r) s := fun B k a w hops hst => by
  intro QQ
  obtain ⟨l1, l2⟩ := evs_get hd
  have l3 := cXs_len hx
  have hrun : (execOp a.eval o).run P w = .ok (.enter f (ps.map a.eval)) w := by
    unfold execOp; rw [ho]
    simp only [resolve, Act.eval, Deferred.ofValue, Sem.run_bind, Sem.run_pure, Result.andThen_ok, invoke, Array.append_empty, Array.empty_append]
    exact hf.enters _ w
  unfold Oper.wp
  rw [hrun]
  have hcall := hf.calls k.I w (ps.toList.map a.eval) (by simp [l1, l3]) fun i v d hv hdd => by
    obtain ⟨x, c, h1, h2, h3⟩ := l2 i d hdd
    obtain ⟨p, t, h4, h5⟩ := cXs_ok hx i x h1
    rw [List.getElem?_map, h4] at hv
    obtain rfl := Option.some.inj hv
    have hp : p ∈ o.op.operands := by
      rw [ho]
      have : p ∈ ps := by simpa using List.mem_of_getElem? h4
      simp [Op.operands, Call.operands, this]
    exact (ev_ok hops hp h5 h2).toD h3
  have harr : (ps.toList.map a.eval).toArray = ps.map a.eval := by apply Array.ext'; simp
  rw [harr] at hcall
  refine Calls.mono hcall ?_
  rintro e w' ⟨v, rfl, hv, hb⟩
  exact ⟨v, rfl, ⟨bigI k.I w.heap.size w', k.own⟩, hv, Ext.called hst.base hb, hst.called hb⟩

/-! ### Constants, structs -/

theorem zCells_ok {t : TypeId} {us : List Value} (h1 : ∀ u ∈ us, u.oneCell' = true) (k : Cfg) (w : World) : RAs k w us (zCells P t us) := by
  refine ⟨by simp [zCells], h1, fun i u d hu hd => ?_⟩
  unfold zCells at hd
  simp only [List.getElem?_map, List.getElem?_zipIdx, Nat.zero_add] at hd
  rw [hu] at hd
  simp at hd
  subst hd
  exact cL_ok ..

theorem fold_set : ∀ (vs : List Value) (j off : Nat) (cs : Array Value), off + j + vs.length ≤ cs.size → ((vs.zipIdx j).foldl (fun (cs : Array Value) (x : Value × Nat) => cs.setIfInBounds (off + x.2) x.1) cs).toList = cs.toList.take (off + j) ++ vs ++ cs.toList.drop (off + j + vs.length)
  | [], j, off, cs, h => by simp
  | v :: vs, j, off, cs, h => by
    simp only [List.length_cons] at h
    rw [List.zipIdx_cons, List.foldl_cons, fold_set vs (j + 1) off _ (by simp; omega)]
    have hlt : off + j < cs.toList.length := by simp; omega
    rw [Array.toList_setIfInBounds]
    refine List.ext_getElem? fun i => ?_
    simp only [List.append_assoc, List.getElem?_append, List.getElem?_take, List.getElem?_drop, List.getElem?_set, List.length_take, List.length_set, List.length_cons, List.getElem?_cons, List.length_append]
    repeat' split
    all_goals first
      | rfl
      | omega
      | (congr 1; omega)
      | (exfalso; omega)
      | (simp_all; done)
      | (rename_i h1 h2 h3; simp at *; omega)

theorem fill_ok {k : Cfg} {w : World} {a : Act} (hops : Ops k w a o fr) {place : Nat → Option (Nat × Nat)} {ty : Nat → TypeId} : ∀ {ps : List (Nat × Operand)} {qs : List (Nat × Nat × X)} {arr : Array Value} {cs cs' : List AV},
    cParts P place ty ps = some qs → (∀ x ∈ ps, x.2 ∈ o.op.operands) → RAs k w arr.toList cs → fillA fr cs qs = some cs' →
    ∃ arr', Instr.fill place arr (ps.map fun x => (x.1, a.eval x.2)) = some arr' ∧ RAs k w arr'.toList cs'
  | [], qs, arr, cs, cs', h1, _, h3, h4 => by
    simp [cParts] at h1; subst h1
    simp [fillA] at h4; subst h4
    exact ⟨arr, rfl, h3⟩
  | (i, p) :: ps, qs, arr, cs, cs', h1, h2, h3, h4 => by
    unfold cParts at h1
    split at h1
    · rename_i off size x l' e1 e2 e3
      obtain rfl := Option.some.inj h1
      unfold fillA at h4
      split at h4
      · rename_i vs hvs
        split at h4
        · rename_i hcc
          obtain ⟨c, hc1, hc2⟩ := Option.bind_eq_some_iff.1 hvs
          have hcells := (ev_ok hops (h2 (i, p) (by simp)) e2 hc1).cells hc2
          have hl1 : (a.eval p).cells.size = size := by have := hcells.1; simp at this; omega
          have hl2 : arr.size = cs.length := by have := h3.1; simpa using this
          have hset := fold_set (a.eval p).cells.toList 0 off arr (by simp [hl1]; omega)
          simp only [Nat.add_zero, Array.length_toList, hl1] at hset
          have hras : RAs k w ((((a.eval p).cells.toList.zipIdx 0).foldl (fun (cs : Array Value) (x : Value × Nat) => cs.setIfInBounds (off + x.2) x.1) arr)).toList (cs.take off ++ vs ++ cs.drop (off + size)) := by
            rw [hset]
            exact ((h3.take off).append hcells).append (h3.drop _)
          obtain ⟨arr', g1, g2⟩ := fill_ok hops e3 (fun x hx => h2 x (by simp [hx])) hras h4
          refine ⟨arr', ?_, g2⟩
          have hcond : ((decide ((a.eval p).cells.size ≠ size)) || decide (off + (a.eval p).cells.size > arr.size)) = false := by simp [hl1]; omega
          simp only [List.map_cons, Instr.fill, e1, hcond, Bool.false_eq_true, if_false]
          rw [← g1]
          congr 1
          rw [← Array.foldl_toList]
          simp
        · cases h4
      · cases h4
    · cases h1

theorem ok_bld {t : TypeId} {parts : Array (Nat × Operand)} {z : List AV} {qs : List (Nat × Nat × X)} (ho : o.op = .build t parts) (hc : compBuild P t parts.toList = some (.bld z qs)) (h : (CI.bld z qs).sem fr s = some (d, s')) : AOp P o fr s d s' := by
  simp only [CI.sem] at h
  obtain ⟨cs', hcs, hh⟩ := Option.map_eq_some_iff.1 h
  obtain ⟨rfl, rfl⟩ := Prod.mk.inj hh
  have hmem : ∀ x ∈ parts.toList, x.2 ∈ o.op.operands := fun x hx => by
    rw [ho]; simp only [Op.operands]; simp; exact ⟨x.1, by simpa using hx⟩
  refine AOp.pure fun B k a w hops hst => ?_
  have key : ∃ arr', P.built t (parts.toList.map fun x => (x.1, a.eval x.2)) = some arr' ∧ RAs k w arr'.toList cs' := by
    unfold compBuild at hc
    split at hc
    · rename_i it fs hit hu
      split at hc
      · rename_i z0 places hz hpl
        split at hc
        · rename_i hone
          obtain ⟨qs', hq, he⟩ := Option.map_eq_some_iff.1 hc
          cases he
          obtain ⟨arr', g1, g2⟩ := fill_ok (a := a) hops hq hmem (zCells_ok (P := P) (t := t) (fun u hu => Array.all_eq_true_iff_forall_mem.1 hone u (by simpa using hu)) k w) hcs
          exact ⟨arr', by unfold Program.built; simp only [hit, hu, hz, hpl]; exact g1, g2⟩
        · cases hc
      · cases hc
    · rename_i it n e hit hu
      split at hc
      · rename_i z0 ie hz hie
        split at hc
        · rename_i hone
          obtain ⟨qs', hq, he⟩ := Option.map_eq_some_iff.1 hc
          cases he
          obtain ⟨arr', g1, g2⟩ := fill_ok (a := a) hops hq hmem (zCells_ok (P := P) (t := t) (fun u hu => Array.all_eq_true_iff_forall_mem.1 hone u (by simpa using hu)) k w) hcs
          exact ⟨arr', by unfold Program.built; simp only [hit, hu, hz, hie]; exact g1, g2⟩
        · cases hc
      · cases hc
    · cases hc
  obtain ⟨arr', g1, g2⟩ := key
  refine ⟨.agg arr', ?_, arr'.toList, by simp, g2⟩
  unfold execOp; rw [ho]
  refine run_value (run_build w t _ arr' ?_)
  rw [← g1]; simp

theorem ok_alc {t : TypeId} {i : TypeInfo} {z : Value} {c : AV} (ho : o.op = .alloc t) (hi : P.info? t = some i) (hz : i.zero = some z) (hc : cA P t z = some c) (h : (CI.box (.c c)).sem fr s = some (d, s')) : AOp P o fr s d s' := by
  simp only [CI.sem, X.ev, Option.bind_some] at h
  split at h
  · rename_i cs hc2
    obtain ⟨rfl, rfl⟩ := Prod.mk.inj (Option.some.inj h)
    intro B k a w hops hst
    have hcells := (cA_ok hc k w).cells hc2
    have hrun : (execOp a.eval o).run P w = .ok (.value (.pointer (some ⟨w.heap.size, 0, none⟩))) (w.alloc (.cells z.cells t)) := by
      unfold execOp; rw [ho]
      refine run_value ?_
      simp only [Instr.alloc, zeroValue, typeInfo, newVar, newRow, Sem.run_bind, Sem.run_pure, run_newObj, Result.andThen_ok, run_program, hi, hz]
      rfl
    have hb : Below w.heap.size w (w.alloc (.cells z.cells t)) := (Below.refl _ _).alloc (Nat.le_refl _) _
    have hh : (w.alloc (.cells z.cells t)).heap[w.heap.size]? = some (.cells z.cells t (0, 0)) := heap_alloc_new w _
    have hext : Ext B k w ⟨updI k.I w.heap.size 0, k.own ++ [.blk w.heap.size]⟩ (w.alloc (.cells z.cells t)) :=
      Ext.fresh hst.base hb (fun b hb => updI_ne _ _ (by omega)) _ fun id o' ho => ⟨o', getElem?_snoc_old _ ho, OwnLe.refl _⟩
    obtain ⟨he, hs2⟩ := hst.new hb (by simp) 0 (.blk w.heap.size) (.cells cs) rfl (fun _ _ => rfl)
      (fun ds hds => by cases hds; exact ⟨t, _, rfl, by simpa using hh, hcells.mono hext⟩) (fun _ _ _ hrow => by cases hrow) (fun _ _ _ hrow => by cases hrow)
    exact OpWp.value hrun ⟨_, ⟨w.heap.size, by rw [← hst.len]; simp, rfl⟩, he, hs2⟩
  · cases h

theorem ok_cnv {src dst : TypeId} {k k' : IntKind} {p : Operand} {x : X} (ho : o.op = .convert src dst p) (h1 : P.underlying src = some (.int k')) (h2 : P.underlying dst = some (.int k)) (hx : cX P 0 p = some x) (h : (CI.cnv k x).sem fr s = some (d, s')) : AOp P o fr s d s' := by
  have hp : p ∈ o.op.operands := by rw [ho]; simp [Op.operands]
  simp only [CI.sem] at h
  split at h
  · rename_i kk n hc
    obtain ⟨rfl, rfl⟩ := Prod.mk.inj (Option.some.inj h)
    refine AOp.pure fun B kc a w hops hst => ⟨.int k (k.wrap n), ?_, RD.sc _⟩
    unfold execOp; rw [ho]
    refine run_value ?_
    simp only [convert, Sem.run_bind, run_underlying h1, run_underlying h2, Result.andThen_ok, sc_ok hops hp hx hc, Conv.intToInt, Sem.run_pure]
  · cases h

theorem ok_iap {t e : TypeId} {n : Nat} {j : TypeInfo} {p q : Operand} {x y : X} (ho : o.op = .indexAddr t p q) (hu : P.underlying t = some (.array n e)) (hj : P.info? e = some j) (hx : cX P 0 p = some x) (hy : cX P 0 q = some y)
    (h : (CI.iap n j.size x y).sem fr s = some (d, s')) : AOp P o fr s d s' := by
  have hp : p ∈ o.op.operands := by rw [ho]; simp [Op.operands]
  have hq : q ∈ o.op.operands := by rw [ho]; simp [Op.operands]
  have hrun : ∀ (a : Act) (w : World) (b off : Nat) (m : Int), a.eval p = .pointer (some ⟨b, off, none⟩) → a.eval q = .int .i64 m → 0 ≤ m → m < n → (execOp a.eval o).run P w = .ok (.value (.pointer (some ⟨b, off + m.toNat * j.size, none⟩))) w := fun a w b off m h1 h2 h3 h4 => by
    unfold execOp; rw [ho]
    refine run_value ?_
    have hcond : 0 ≤ m ∧ m < (n : Int) := ⟨h3, h4⟩
    simp only [Instr.indexAt, h1, h2, asIntOf, Sem.run_bind, Sem.run_pure, Result.andThen_ok, run_underlying hu, Instr.sureAddr, if_pos hcond, sizeOf, typeInfo, run_program, hj, Addr.add_mid]
  simp only [CI.sem] at h
  split at h
  · cases h
  · rename_i m hm
    split at h
    · rename_i hcc
      split at h
      · rename_i ds hc
        obtain ⟨rfl, rfl⟩ := Prod.mk.inj (Option.some.inj h)
        refine AOp.pure fun B k a w hops hst => ?_
        have hv : RD k.I w (a.eval p) (.ref ds) := ev_ok hops hp hx hc
        generalize hu' : a.eval p = u at hv
        cases hv with
        | ref b off us ds h1 h2 h3 h4 =>
          refine ⟨_, hrun a w b off m hu' (int_ok hops hq hy hm) hcc.1 hcc.2, ?_⟩
          have h5 : RDs k.I w (us.drop (m.toNat * j.size)) (ds.drop (m.toNat * j.size)) := RDs.drop ⟨h1, h2, h4⟩ _
          refine .ref _ _ _ _ h5.1 h5.2.1 (fun i u hu => ?_) h5.2.2
          rw [List.getElem?_drop] at hu
          rw [Nat.add_assoc]
          exact h3 _ u hu
      · rename_i id off hc
        obtain ⟨rfl, rfl⟩ := Prod.mk.inj (Option.some.inj h)
        refine AOp.pure fun B k a w hops hst => ?_
        obtain ⟨b, hb, hv⟩ : RL k w (a.eval p) (.ptr id off) := ev_ok hops hp hx hc
        exact ⟨_, hrun a w b off m hv (int_ok hops hq hy hm) hcc.1 hcc.2, b, hb, rfl⟩
      · rename_i id n' off hc
        obtain ⟨rfl, rfl⟩ := Prod.mk.inj (Option.some.inj h)
        refine AOp.pure fun B k a w hops hst => ?_
        obtain ⟨b, hv, hb⟩ : RL k w (a.eval p) (.vptr id n' off) := ev_ok hops hp hx hc
        exact ⟨_, hrun a w b off m hv (int_ok hops hq hy hm) hcc.1 hcc.2, b, rfl, hb⟩
      · cases h
    · cases h

theorem ok_nck {p : Operand} {x : X} (ho : o.op = .nilCheck p) (hx : cX P 0 p = some x) (h : (CI.nck x).sem fr s = some (d, s')) : AOp P o fr s d s' := by
  have hp : p ∈ o.op.operands := by rw [ho]; simp [Op.operands]
  have hrun : ∀ (a : Act) (w : World) (ad : Addr), a.eval p = .pointer (some ad) → (execOp a.eval o).run P w = .ok (.value (.pointer (some ad))) w := fun a w ad he => by
    unfold execOp; rw [ho]
    dsimp only
    rw [he]
    rfl
  simp only [CI.sem] at h
  split at h
  · rename_i ds hc
    obtain ⟨rfl, rfl⟩ := Prod.mk.inj (Option.some.inj h)
    refine AOp.pure fun B k a w hops hst => ?_
    have hv : RD k.I w (a.eval p) (.ref ds) := ev_ok hops hp hx hc
    have hv' := hv
    generalize hu' : a.eval p = u at hv
    cases hv with
    | ref b off us ds h1 h2 h3 h4 => exact ⟨_, hrun a w _ hu', by rw [← hu']; exact hv'⟩
  · rename_i id off hc
    obtain ⟨rfl, rfl⟩ := Prod.mk.inj (Option.some.inj h)
    refine AOp.pure fun B k a w hops hst => ?_
    obtain ⟨b, hb, hv⟩ : RL k w (a.eval p) (.ptr id off) := ev_ok hops hp hx hc
    exact ⟨_, hrun a w _ hv, b, hb, rfl⟩
  · rename_i id n' off hc
    obtain ⟨rfl, rfl⟩ := Prod.mk.inj (Option.some.inj h)
    refine AOp.pure fun B k a w hops hst => ?_
    obtain ⟨b, hv, hb⟩ : RL k w (a.eval p) (.vptr id n' off) := ev_ok hops hp hx hc
    exact ⟨_, hrun a w _ hv, b, rfl, hb⟩
  · cases h
end
end Go.Ab

namespace Go.Ab
open Go Go.RowKit Go.Proofs.Lg

section
variable {P : Program} {o : Oper} {fr : Fr} {s s' : List AObj} {d : AV}

/-- An append, in place or into a new block. -/
theorem run_app2 (w : World) (base : Nat) (t ty e : TypeId) (i : TypeInfo) (z : Value) (ht : P.underlying t = some (.slice e)) (hi : P.info? e = some i) (hz : i.zero = some z) (hzs : z.cells.size = i.size)
    (v : Value) (n : Nat) (xs : List Value) (hown : w.ownsRow base e i.size v n xs) (x : Value) (m : Nat) (news : List Value) (hx : SrcAt w x m i.size news) (h1 : ∀ u ∈ news, u.oneCell' = true)
    (h63 : n + m ≤ 9223372036854775807) (hbytes : (n + m) * i.bytes ≤ 140737488355328) (hbase : base ≤ w.heap.size) :
    ∃ v' w', (Builtin.append_ #[t, t] ty #[v, x]).run P w = .ok v' w' ∧ ((m = 0 ∧ v' = v ∧ w' = w) ∨
      (0 < m ∧ w'.ownsRow base e i.size v' (n + m) (xs ++ news) ∧ Below base w w' ∧ ((∃ g, v'.ownBlock = some g ∧ v.ownBlock = some g ∧ w.grownBy w' (some g)) ∨ (v'.ownBlock = some w.heap.size ∧ w.heap.size < w'.heap.size ∧ w.grownBy w' none)))) := by
  obtain ⟨a0, c0, rfl⟩ := ownsRow_form hown
  have hcap := ownsRow_cap hown
  by_cases hm : m = 0
  · subst hm
    refine ⟨_, w, ?_, .inl ⟨rfl, rfl, rfl⟩⟩
    obtain ⟨hl, ⟨c, rfl, _⟩ | ⟨ad, c, rfl, hc⟩⟩ := hx
    · cases a0 with
      | none => simp [Builtin.append_, run_underlying ht, sizeOf, typeInfo, hi, Builtin.lenOf, Builtin.firstCells, hcap]
      | some a0 => simp [Builtin.append_, run_underlying ht, sizeOf, typeInfo, hi, Builtin.lenOf, Builtin.firstCells, hcap, storeCells]
    · cases a0 with
      | none => simp [Builtin.append_, run_underlying ht, sizeOf, typeInfo, hi, Builtin.lenOf, Builtin.firstCells, hcap, loadCells, loadCellsFrom]
      | some a0 => simp [Builtin.append_, run_underlying ht, sizeOf, typeInfo, hi, Builtin.lenOf, Builtin.firstCells, hcap, storeCells, loadCells, loadCellsFrom]
  · obtain ⟨hl, ⟨c, _, h0⟩ | ⟨ad, c, rfl, hc⟩⟩ := hx
    · exact absurd h0 hm
    have hlen : (xs ++ news).length = (n + m) * i.size := by rw [List.length_append, hown.1, hl, Nat.add_mul]
    have grown : ∀ (old : Nat), old < n + m →
        (w.drew.alloc (.cells (xs.toArray ++ news.toArray ++ Builtin.zeroCells z.cells (grownCap w (n + m) old e - (n + m))) e)).ownsRow base e i.size
          (.slice (some ⟨w.heap.size, 0, none⟩) (n + m) (grownCap w (n + m) old e)) (n + m) (xs ++ news) ∧
        w.grownBy (w.drew.alloc (.cells (xs.toArray ++ news.toArray ++ Builtin.zeroCells z.cells (grownCap w (n + m) old e - (n + m))) e)) none := by
      intro old ho
      have hge := grownCap_ge w (n + m) old e
      have hcm : grownCap w (n + m) old e ≤ maxLen := grownCap_le_maxLen w (n + m) old e (by unfold maxLen; exact h63)
      refine ⟨⟨hlen, .inr ⟨w.heap.size, _, _, rfl, hbase, heap_alloc_new w.drew _, hge, hcm, ?_, ?_⟩⟩, ⟨rfl, rfl, rfl, by simp, fun k hk _ => Below.heap_alloc w.drew _ k (by simpa using hk)⟩⟩
      · simp only [Array.size_append, List.size_toArray, size_zeroCells, hzs, hown.1, hl, ← Nat.add_mul]
        congr 1
        omega
      · simp only [Array.toList_append, List.append_assoc]
        rw [← List.append_assoc, ← hlen]
        exact List.take_left
    rcases hown.2 with ⟨hv, rfl⟩ | ⟨g, cap, cur, hv, hbg, hg, hnc, hcm, hcs, htake⟩
    · cases hv
      have hx : xs = [] := List.eq_nil_of_length_eq_zero (by simpa using hown.1)
      subst hx
      have hr := run_append_nil (P := P) w t ty e i z ht hi hz ad m c news hl hc (by omega) (by omega) (by have hb := hbytes; simp only [Nat.zero_add] at hb; omega)
      have hgr := grown 0 (by omega)
      simp only [Nat.zero_add, List.nil_append, Array.empty_append] at hgr ⊢
      exact ⟨_, _, hr, .inr ⟨by omega, hgr.1, (Below.refl _ _).grown hgr.2 hbase (by simp), .inr ⟨rfl, by simp, hgr.2⟩⟩⟩
    · cases hv
      by_cases hroom : n + m ≤ c0
      · have hfit : n * i.size + news.length ≤ cur.size := by rw [hl, hcs, ← Nat.add_mul]; exact Nat.mul_le_mul_right _ hroom
        have hr := run_append_room (P := P) w t ty e i ht hi g n c0 cur hg ad m c news hl hc h1 hroom hfit
        have hgb : w.grownBy (w.setRow g (cur.toList.take (n * i.size) ++ news ++ cur.toList.drop (n * i.size + news.length)).toArray) (some g) := ⟨rfl, rfl, rfl, by simp, fun k _ hk => setRow_other w g k _ (fun e => hk (by simp [e]))⟩
        refine ⟨_, _, hr, .inr ⟨by omega, ⟨hlen, .inr ⟨g, c0, _, rfl, hbg, setRow_heap w g cur _ e _ hg, hroom, hcm, ?_, ?_⟩⟩, (Below.refl _ _).grown hgb hbase (by simp; exact hbg), .inl ⟨g, rfl, rfl, hgb⟩⟩⟩
        · simp only [List.size_toArray, List.length_append, List.length_take, List.length_drop, Array.length_toList]
          omega
        · rw [htake, ← hlen]
          exact List.take_left
      · have holds : ∀ j u, xs[j]? = some u → w.cell? ((⟨g, 0, none⟩ : Addr).add j) = some u := hown.cells (g := g) rfl
        have hr := run_append_grow (P := P) w t ty e i z ht hi hz ⟨g, 0, none⟩ n c0 xs hown.1 holds ad m c news hl hc (by omega) (by omega) (growslice_fits (by omega) hbytes)
        have hgr := grown c0 (by omega)
        exact ⟨_, _, hr, .inr ⟨by omega, hgr.1, (Below.refl _ _).grown hgr.2 hbase (by simp), .inr ⟨rfl, by simp, hgr.2⟩⟩⟩

/-- An owned row's cells are what its data say. -/
theorem row_cells {I : Nat → Nat} {w : World} {B e sz : Nat} {v : Value} {rows : List (List D)} {xs : List Value} (h : RD I w v (.sl sz rows)) (ho : w.ownsRow B e sz v rows.length xs) : RDs I w xs rows.flatten := by
  obtain ⟨a, c, us, rfl, h2, h3, h4, h5, h6⟩ := h.sl_inv
  have hfl := flatten_len rows h2
  have : xs = us := by
    have hl1 : us.length = rows.length * sz := by rw [h5.1, hfl]
    have hl2 : xs.length = rows.length * sz := ho.1
    refine List.ext_getElem? fun i => ?_
    by_cases hi : i < rows.length * sz
    · have hu : us[i]? = some us[i] := List.getElem?_eq_getElem (by omega)
      rw [hu]
      rcases ho.2 with ⟨hv, hn⟩ | ⟨g, cap, cur, hv, hbg, hg, hnc, hcm, hcs, htake⟩
      · rw [hn] at hi; simp at hi
      · cases hv
        obtain ⟨b, off, hb, hc⟩ := h6 (by intro hr; rw [hr] at hi; simp at hi)
        cases hb
        have := (hc i _ hu).2
        rw [Nat.zero_add, cell_of_row w g i cur e (0, 0) hg] at this
        have h9 : xs[i]? = (List.take (rows.length * sz) cur.toList)[i]? := by rw [htake]
        rw [h9, List.getElem?_take, if_pos hi]
        simpa using this
    · rw [List.getElem?_eq_none (by omega), List.getElem?_eq_none (by omega)]
  rw [this]; exact h5

/-- An owned row as data. -/
theorem row_RD {I : Nat → Nat} {w : World} {B e sz n : Nat} {v : Value} {rows : List (List D)} {xs : List Value} (ho : w.ownsRow B e sz v n xs) (hx : RDs I w xs rows.flatten) (hn : rows.length = n) (hr : ∀ r ∈ rows, r.length = sz)
    (hI : ∀ g, v.ownBlock = some g → n * sz ≤ I g) : RD I w v (.sl sz rows) := by
  rcases ho.2 with ⟨hv, h0⟩ | ⟨g, cap, cur, hv, hbg, hg, hnc, hcm, hcs, htake⟩
  · subst hv
    obtain rfl : rows = [] := List.eq_nil_of_length_eq_zero (by omega)
    exact RD.sl_mk (us := []) (by simp) (by simp) (by omega) (by omega) ⟨by simp, by simp, by simp⟩ (by simp)
  · subst hv
    refine RD.sl_mk hn hr hnc (by unfold maxLen at hcm; omega) hx fun _ => ⟨g, 0, rfl, fun i u hu => ?_⟩
    have hi := (List.getElem?_eq_some_iff.1 hu).1
    have hl := ho.1
    refine ⟨by have := hI g rfl; omega, ?_⟩
    rw [Nat.zero_add, cell_of_row w g i cur e (0, 0) hg]
    rw [← htake, List.getElem?_take] at hu
    split at hu
    · simpa using hu
    · cases hu

theorem rows_sz {I : Nat → Nat} {w : World} {v : Value} {sz : Nat} {rows : List (List D)} (h : RD I w v (.sl sz rows)) : ∀ r ∈ rows, r.length = sz := by
  obtain ⟨a, c, us, _, h2, _⟩ := h.sl_inv; exact h2

theorem RD.src {I : Nat → Nat} {w : World} {v : Value} {sz : Nat} {rows : List (List D)} (h : RD I w v (.sl sz rows)) : ∃ us, SrcAt w v rows.length sz us ∧ RDs I w us rows.flatten := by
  obtain ⟨a, c, us, rfl, h2, h3, h4, h5, h6⟩ := h.sl_inv
  refine ⟨us, ⟨by rw [h5.1, flatten_len rows h2], ?_⟩, h5⟩
  cases a with
  | none =>
    left
    have : rows = [] := by
      cases rows with
      | nil => rfl
      | cons r rows => obtain ⟨b, off, hb, _⟩ := h6 (by simp); cases hb
    subst this
    exact ⟨c, rfl, rfl⟩
  | some ad =>
    right
    refine ⟨ad, c, rfl, fun j u hu => ?_⟩
    obtain ⟨b, off, hb, hc⟩ := h6 (by intro e; subst e; have := h5.1; simp at this; subst this; simp at hu)
    obtain rfl := Option.some.inj hb
    rw [Addr.add_mid]
    exact (hc j u hu).2

/-- A row has grown. -/
theorem St.grow {B : Nat} {k : Cfg} {w w' : World} (h : St B k s w) {id n m x0 x : Nat} {v v' : Value} {g' : Nat} {ob : AObj} (hidlt2 : id < s.length) (hI : ∀ g, v.ownBlock = some g → k.I g = x0) (hk : k.own[id]? = some (.row v n)) (hm : 0 < m) (hx : x0 ≤ x)
    (hb : Below B w w') (hg : v'.ownBlock = some g') (hcase : v.ownBlock = some g' ∨ (g' = w.heap.size ∧ w.heap.size < w'.heap.size)) (hblk : ∀ b, b < w.heap.size → b ≠ g' → w'.heap[b]? = w.heap[b]?)
    (hpre : v.ownBlock = some g' → ∀ q u, q < x0 → w.cell? ⟨g', q, none⟩ = some u → w'.cell? ⟨g', q, none⟩ = some u)
    (hc : ∀ ds, ob ≠ .cells ds) (hr : ∀ e' sz' n', ob = .row e' sz' n' → n' = n + m ∧ x = n' * sz' ∧ ∃ xs', w'.ownsRow B e' sz' v' (n + m) xs')
    (hv : ∀ e' sz' ds, ob = .vec e' sz' ds → x = 0 ∧ ds.length = (n + m) * sz' ∧ ∃ xs', w'.ownsRow B e' sz' v' (n + m) xs' ∧ ∀ k' , Ext B k w k' w' → RAs k' w' xs' ds) :
    Ext B k w ⟨updI k.I g' x, k.own.set id (.row v' (n + m))⟩ w' ∧ St B ⟨updI k.I g' x, k.own.set id (.row v' (n + m))⟩ (s.set id ob) w' := by
  have hidlt := (List.getElem?_eq_some_iff.1 hk).1
  have hBg : B ≤ g' := by
    rcases hcase with hc | ⟨hc, _⟩
    · exact (h.lies id _ g' hk hc).1
    · have := h.base; omega
  have hg'lt : g' < w'.heap.size := by
    rcases hcase with hc | ⟨hc, hlt⟩
    · exact Nat.lt_of_lt_of_le (h.lies id _ g' hk hc).2 hb.size
    · omega
  have hother : ∀ (j : Nat) (o' : Own) (b : Nat), j ≠ id → k.own[j]? = some o' → o'.block = some b → b ≠ g' := fun j o' b hj ho' hbb e => by
    subst e
    rcases hcase with hc | ⟨hc, _⟩
    · exact h.apart j id o' _ b hj ho' hk hbb hc
    · have := (h.lies j o' b ho' hbb).2; omega
  have he : Ext B k w ⟨updI k.I g' x, k.own.set id (.row v' (n + m))⟩ w' := by
    refine ⟨hb, fun b q u hq hc => ?_, fun b hbB => updI_ne _ _ (by omega), fun j o' hj => ?_⟩
    · show q < updI k.I g' _ b ∧ _
      by_cases hbg : b = g'
      · subst hbg
        rw [updI_self]
        rcases hcase with hc' | ⟨hc', _⟩
        · have hIg := hI b hc'
          rw [hIg] at hq
          exact ⟨by omega, hpre hc' q u hq hc⟩
        · have := cell_none_lt hc; omega
      · rw [updI_ne _ _ hbg]
        exact ⟨hq, (World.cell?_of_block (w := w) (hblk b (cell_none_lt hc) hbg)).trans hc⟩
    · by_cases hj' : j = id
      · subst hj'
        rw [hk] at hj; cases hj
        exact ⟨.row v' (n + m), by simp [hidlt], _, _, rfl, .inr (by omega)⟩
      · exact ⟨o', by rw [List.getElem?_set_ne (Ne.symm hj')]; exact hj, OwnLe.refl _⟩
  refine ⟨he, Nat.le_trans h.base hb.size, by simp [h.len], fun j ds hs => ?_, fun j e' sz' n' hs => ?_, fun j e' sz' ds hs => ?_, fun j o' b ho' hbb => ?_, fun j b ho' => ?_, fun i j o1 o2 b hij ho1 ho2 hb1 hb2 => ?_⟩
  · have hj : j ≠ id := by rintro rfl; simp [hidlt2] at hs; exact hc _ hs
    rw [List.getElem?_set_ne (Ne.symm hj)] at hs
    obtain ⟨b, t, us, h1, h2, h3⟩ := h.cells j ds hs
    exact ⟨b, t, us, by rw [List.getElem?_set_ne (Ne.symm hj)]; exact h1, by rw [hblk b (h.lies j _ b h1 rfl).2 (hother j _ b hj h1 rfl)]; exact h2, h3.mono he⟩
  · by_cases hj : j = id
    · subst hj
      simp [hidlt2] at hs
      obtain ⟨rfl, hx2, xs', ho⟩ := hr _ _ _ hs
      refine ⟨v', xs', by simp [hidlt], ho, fun g hgg => ?_⟩
      rw [hg] at hgg; cases hgg
      rw [← hx2]; exact updI_self ..
    · rw [List.getElem?_set_ne (Ne.symm hj)] at hs
      obtain ⟨u, ys, h1, h2, h3⟩ := h.row j e' sz' n' hs
      refine ⟨u, ys, by rw [List.getElem?_set_ne (Ne.symm hj)]; exact h1, ⟨h2.1, ?_⟩, fun g hgg => ?_⟩
      · rcases h2.2 with e1 | ⟨g, cap, cur, e1, e2, e3, e4⟩
        · exact .inl e1
        · exact .inr ⟨g, cap, cur, e1, e2, by rw [hblk g (Array.getElem?_eq_some_iff.1 e3).1 (hother j _ g hj h1 (by rw [e1]; rfl))]; exact e3, e4⟩
      · show updI k.I _ _ g = _
        rw [updI_ne _ _ (hother j _ g hj h1 hgg)]; exact h3 g hgg
  · by_cases hj : j = id
    · subst hj
      simp [hidlt2] at hs
      obtain ⟨hx2, hlen, xs', ho, hras⟩ := hv _ _ _ hs
      refine ⟨v', n + m, xs', by simp [hidlt], ho, fun g hgg => ?_, hlen, hras _ he⟩
      rw [hg] at hgg; cases hgg
      rw [← hx2]; exact updI_self ..
    · rw [List.getElem?_set_ne (Ne.symm hj)] at hs
      obtain ⟨u, n2, ys, h1, h2, h3, h4, h5⟩ := h.vec j e' sz' ds hs
      refine ⟨u, n2, ys, by rw [List.getElem?_set_ne (Ne.symm hj)]; exact h1, ⟨h2.1, ?_⟩, fun g hgg => ?_, h4, h5.mono he⟩
      · rcases h2.2 with e1 | ⟨g, cap, cur, e1, e2, e3, e4⟩
        · exact .inl e1
        · exact .inr ⟨g, cap, cur, e1, e2, by rw [hblk g (Array.getElem?_eq_some_iff.1 e3).1 (hother j _ g hj h1 (by rw [e1]; rfl))]; exact e3, e4⟩
      · show updI k.I _ _ g = _
        rw [updI_ne _ _ (hother j _ g hj h1 hgg)]; exact h3 g hgg
  · by_cases hj : j = id
    · subst hj
      simp [hidlt] at ho'
      subst ho'
      have hbb' : v'.ownBlock = some b := hbb
      rw [hg] at hbb'; cases hbb'
      exact ⟨hBg, hg'lt⟩
    · have ho2 : k.own[j]? = some o' := by rw [← ho']; exact (List.getElem?_set_ne (Ne.symm hj)).symm
      obtain ⟨l1, l2⟩ := h.lies j o' b ho2 hbb
      exact ⟨l1, Nat.lt_of_lt_of_le l2 hb.size⟩
  · have hj : j ≠ id := by rintro rfl; simp [hidlt] at ho'
    have ho2 : k.own[j]? = some (.blk b) := by rw [← ho']; exact (List.getElem?_set_ne (Ne.symm hj)).symm
    show updI k.I _ _ b = _
    rw [updI_ne _ _ (hother j _ b hj ho2 rfl)]; exact h.blkI j b ho2
  · have key : ∀ (x : Nat) (ox : Own) (bx : Nat), (k.own.set id (.row v' (n + m)))[x]? = some ox → ox.block = some bx → (x = id ∧ bx = g') ∨ (x ≠ id ∧ k.own[x]? = some ox ∧ bx ≠ g') := fun x ox bx hx hbx => by
      by_cases hxi : x = id
      · subst hxi
        simp [hidlt] at hx
        subst hx
        have : v'.ownBlock = some bx := hbx
        rw [hg] at this; cases this
        exact .inl ⟨rfl, rfl⟩
      · rw [List.getElem?_set_ne (Ne.symm hxi)] at hx
        exact .inr ⟨hxi, hx, hother x ox bx hxi hx hbx⟩
    rcases key i o1 b ho1 hb1 with ⟨rfl, rfl⟩ | ⟨i1, i2, i3⟩ <;> rcases key j o2 b ho2 hb2 with ⟨rfl, j1⟩ | ⟨j1, j2, j3⟩
    · exact hij rfl
    · exact j3 rfl
    · exact i3 j1
    · exact h.apart i j o1 o2 b hij i2 j2 hb1 hb2

/-- What is appended. -/
theorem srcA_ok {B : Nat} {k : Cfg} {a : Act} {w : World} (hst : St B k s w) (hops : Ops k w a o fr) {q : Operand} (hq : q ∈ o.op.operands) {t : TypeId} {y : X} (hy : cX P t q = some y) {sz : Nat} {m : Nat × List AV} (h : srcA s sz (y.ev fr) = some m) :
    ∃ us, SrcAt w (a.eval q) m.1 sz us ∧ RAs k w us m.2 := by
  unfold srcA at h
  split at h
  · rename_i id n sz' hc
    split at h
    · rename_i e sz2 ds hid
      split at h
      · rename_i hcc
        obtain ⟨rfl, rfl, c0, c1⟩ := hcc
        obtain rfl := Option.some.inj h
        obtain ⟨⟨ad, cc, hv⟩, u, n', hku, hle, heq⟩ : RL k w (a.eval q) (.vec id n sz2) := ev_ok hops hq hy hc
        obtain ⟨v, n2, xs, g1, hown, hI, g4, hxs⟩ := hst.vec id e sz2 ds hid
        rw [hku] at g1; cases g1
        have hnn : n = n' := by
          rw [c1] at g4
          exact Nat.eq_of_mul_eq_mul_right c0 g4
        subst hnn
        have hveq := heq rfl
        refine ⟨xs, ⟨hown.1, ?_⟩, hxs⟩
        rw [hveq]
        rcases hown.2 with ⟨h1, h2⟩ | ⟨g, cap, cur, h1, _⟩
        · exact .inl ⟨0, h1, h2⟩
        · exact .inr ⟨_, cap, h1, fun i x hx => hown.cells (by rw [h1]; rfl) i x hx⟩
      · cases h
    · cases h
  · split at h
    · rename_i rows hr
      obtain rfl := Option.some.inj h
      obtain ⟨us, hsrc, hus⟩ := (sl_ok hops hq hy hr).src
      exact ⟨us, hsrc, RDs.toA hus⟩
    · cases h

theorem ok_app {mu : Bool} {t e : TypeId} {j : TypeInfo} {z : Value} {p q : Operand} {x y : X} (ho : o.op = .call { callee := .builtin .append, args := #[p, q], argTypes := #[t, t] }) (hu : P.underlying t = some (.slice e)) (hj : P.info? e = some j) (hz : j.zero = some z) (hzs : z.cells.size = j.size)
    (hx : cX P t p = some x) (hy : cX P t q = some y) (h : (CI.app mu e j.size j.bytes x y).sem fr s = some (d, s')) : AOp P o fr s d s' := by
  have hp : p ∈ o.op.operands := by rw [ho]; simp [Op.operands, Call.operands]
  have hq : q ∈ o.op.operands := by rw [ho]; simp [Op.operands, Call.operands]
  have hrun : ∀ (a : Act) (w : World) (v : Value) (w' : World), (Builtin.append_ #[t, t] o.type #[a.eval p, a.eval q]).run P w = .ok v w' → (execOp a.eval o).run P w = .ok (.value v) w' := fun a w v w' hr => by
    unfold execOp; rw [ho]
    simp only [resolve, invoke, builtin, Sem.run_bind, Sem.run_pure, Result.andThen_ok, List.map_toArray, List.map_cons, List.map_nil, hr]
  simp only [CI.sem] at h
  split at h
  · rename_i id n sz' hc
    split at h
    · rename_i us0 e' sz2 ds hsrc0 hid
      split at h
      · rename_i hcc
        obtain ⟨rfl, rfl, rfl, c0, c1, c2, c3, c4⟩ := hcc
        obtain ⟨rfl, rfl⟩ := Prod.mk.inj (Option.some.inj h)
        intro B k a w hops hst
        obtain ⟨⟨ad, cc, hv⟩, u, n', hku, hle, heq⟩ : RL k w (a.eval p) (.vec id n j.size) := ev_ok hops hp hx hc
        obtain ⟨v, n2, xs, g1, hown, hI, g4, hxs⟩ := hst.vec id e' j.size ds hid
        rw [hku] at g1; cases g1
        have hnn : n = n' := by
          rw [c1] at g4
          exact Nat.eq_of_mul_eq_mul_right c0 g4
        subst hnn
        have hveq := heq rfl
        obtain ⟨us, hsrc, hus⟩ := srcA_ok hst hops hq hy hsrc0
        obtain ⟨v', w', hr, hcase⟩ := run_app2 (P := P) w B t o.type e' j z hu hj hz hzs _ n xs hown _ us0.1 us hsrc hus.2.1 c4 c3 hst.base
        rcases hcase with ⟨h0, rfl, rfl⟩ | ⟨hm, hown', hb, hcase⟩
        · have hnil : us0.2 = [] := List.eq_nil_of_length_eq_zero (by rw [c2, h0]; simp)
          rw [h0, hnil]
          refine OpWp.value (hrun a _ _ _ (by rw [hveq]; exact hr)) ⟨k, ⟨⟨ad, cc, by rw [← hveq]; simpa using hv⟩, v', n, hku, by simp, fun _ => rfl⟩, Ext.refl B k _, ?_⟩
          have : s.set id (.vec e' j.size (ds ++ [])) = s := by
            obtain ⟨h10, h11⟩ := List.getElem?_eq_some_iff.1 hid
            rw [List.append_nil, ← h11]; exact List.set_getElem_self h10
          rw [this]; exact hst
        · have hrest : ∃ g', v'.ownBlock = some g' ∧ (u.ownBlock = some g' ∨ (g' = w.heap.size ∧ w.heap.size < w'.heap.size)) ∧ (∀ b, b < w.heap.size → b ≠ g' → w'.heap[b]? = w.heap[b]?) := by
            rcases hcase with ⟨g, hg1, hg2, hgb⟩ | ⟨hg, hlt, hgb⟩
            · exact ⟨g, hg1, .inl hg2, fun b hb hne => hgb.block b hb (by simpa using hne)⟩
            · exact ⟨w.heap.size, hg, .inr ⟨rfl, hlt⟩, fun b hb _ => hgb.block b hb (by simp)⟩
          obtain ⟨g', hg', hcase', hblk⟩ := hrest
          obtain ⟨he, hs2⟩ := hst.grow (x0 := 0) (x := 0) (ob := .vec e' j.size (ds ++ us0.2)) (List.getElem?_eq_some_iff.1 hid).1 hI hku hm (Nat.le_refl _) hb hg' hcase' hblk (fun _ q u hq _ => by omega) (fun _ h => by cases h) (fun _ _ _ h => by cases h)
            (fun _ _ _ h => by cases h; exact ⟨rfl, by rw [List.length_append, c1, c2, Nat.add_mul], _, hown', fun k' he => (hxs.mono he).append (hus.mono he)⟩)
          have hidlt := (List.getElem?_eq_some_iff.1 hku).1
          exact OpWp.value (hrun a _ _ _ (by rw [hveq]; exact hr)) ⟨_, ⟨ownsRow_form hown', v', n + us0.1, by simp [hidlt], Nat.le_refl _, fun _ => rfl⟩, he, hs2⟩
      · cases h
    · cases h
  split at h
  · rename_i news hn
    split at h
    · rename_i sz0 hc
      split at h
      · cases h
      intro B k a w hops hst
      have hv : a.eval p = .slice none 0 0 := ev_ok hops hp hx hc
      obtain ⟨us, hsrc, hus⟩ := (sl_ok hops hq hy hn).src
      have hrows := rows_sz (sl_ok hops hq hy hn)
      split at h
      · rename_i h0
        obtain ⟨rfl, rfl⟩ := Prod.mk.inj (Option.some.inj h)
        subst h0
        obtain ⟨v', w', hr, hcase⟩ := run_app2 (P := P) w B t o.type e j z hu hj hz hzs _ 0 [] (World.ownsRow_nil w B e j.size) _ 0 us hsrc hus.2.1 (by omega) (by omega) hst.base
        rcases hcase with ⟨_, rfl, rfl⟩ | ⟨hm, _⟩
        · exact OpWp.value (hrun a _ _ _ (by rw [hv]; exact hr)) ⟨k, rfl, Ext.refl B k _, hst⟩
        · omega
      · rename_i h0
        have hm : 0 < news.length := by
          rcases Nat.eq_zero_or_pos news.length with e | e
          · exact absurd (List.eq_nil_of_length_eq_zero e) h0
          · exact e
        split at h
        · rename_i hc2
          obtain ⟨rfl, rfl⟩ := Prod.mk.inj (Option.some.inj h)
          obtain ⟨v', w', hr, hcase⟩ := run_app2 (P := P) w B t o.type e j z hu hj hz hzs _ 0 [] (World.ownsRow_nil w B e j.size) _ news.length us hsrc hus.2.1 (by omega) (by simpa using hc2.1) hst.base
          rcases hcase with ⟨h1, _⟩ | ⟨_, hown, hb, ⟨g, _, hg, _⟩ | ⟨hg, hlt, hgb⟩⟩
          · omega
          · cases hg
          · rw [Nat.zero_add, List.nil_append] at hown
            have hbw : Below w.heap.size w w' := ⟨hgb.os, hgb.tape, hgb.output, hgb.size, fun k hk => hgb.block k hk (by simp)⟩
            obtain ⟨he, hs2⟩ := hst.new hbw hlt (news.length * j.size) (.row v' news.length) (.row e j.size news.length) hg (fun b hb => by cases hb) (fun ds hds => by cases hds)
              (fun e' sz' n' hrow => by cases hrow; exact ⟨v', us, rfl, hown, rfl⟩) (fun _ _ _ hv => by cases hv)
            refine OpWp.value (hrun a _ _ _ (by rw [hv]; exact hr)) ⟨_, ⟨?_, v', news.length, by rw [← hst.len]; simp, Nat.le_refl _, fun _ => rfl⟩, he, hs2⟩
            refine row_RD hown (hus.mono he.keep) rfl hrows fun g hgg => ?_
            rw [hg] at hgg; cases hgg
            exact Nat.le_of_eq (updI_self ..).symm
        · cases h
    · rename_i id sz' rows hc
      split at h
      · rename_i e' sz2 n hid
        split at h
        · rename_i hcc
          obtain ⟨rfl, rfl, rfl, rfl, hby, h63⟩ := hcc
          obtain ⟨rfl, rfl⟩ := Prod.mk.inj (Option.some.inj h)
          intro B k a w hops hst
          obtain ⟨hv, u, n', hku, hle, heq⟩ : RL k w (a.eval p) (.tsl id j.size rows) := ev_ok hops hp hx hc
          obtain ⟨v, xs, hkv, hown, hI⟩ := hst.row id e' j.size rows.length hid
          rw [hku] at hkv; cases hkv
          have hveq := heq rfl
          rw [hveq] at hv
          obtain ⟨us, hsrc, hus⟩ := (sl_ok hops hq hy hn).src
          have hnrows := rows_sz (sl_ok hops hq hy hn)
          have hrrows := rows_sz hv
          have hxs := row_cells hv hown
          obtain ⟨v', w', hr, hcase⟩ := run_app2 (P := P) w B t o.type e' j z hu hj hz hzs _ rows.length xs hown _ news.length us hsrc hus.2.1 h63 hby hst.base
          rcases hcase with ⟨h0, rfl, rfl⟩ | ⟨hm, hown', hb, hcase⟩
          · have : news = [] := List.eq_nil_of_length_eq_zero h0
            subst this
            refine OpWp.value (hrun a _ _ _ (by rw [hveq]; exact hr)) ⟨k, ⟨by simpa using hv, v', rows.length, hku, by simp, fun _ => rfl⟩, Ext.refl B k _, ?_⟩
            simp only [List.length_nil, Nat.add_zero]
            have : s.set id (.row e' j.size rows.length) = s := by
              obtain ⟨h10, h11⟩ := List.getElem?_eq_some_iff.1 hid
              rw [← h11]; exact List.set_getElem_self h10
            rw [this]; exact hst
          · have hrest : ∃ g', v'.ownBlock = some g' ∧ (u.ownBlock = some g' ∨ (g' = w.heap.size ∧ w.heap.size < w'.heap.size)) ∧ (∀ b, b < w.heap.size → b ≠ g' → w'.heap[b]? = w.heap[b]?) ∧ (u.ownBlock = some g' → ∀ q x, q < rows.length * j.size → w.cell? ⟨g', q, none⟩ = some x → w'.cell? ⟨g', q, none⟩ = some x) := by
              rcases hcase with ⟨g, hg1, hg2, hgb⟩ | ⟨hg, hlt, hgb⟩
              · refine ⟨g, hg1, .inl hg2, fun b hb hne => hgb.block b hb (by simpa using hne), fun _ q x hq hc => ?_⟩
                have e1 := hown.cells hg2 
                have e2 := hown'.cells hg1
                have hl := hown.1
                have hxq : xs[q]? = some xs[q] := List.getElem?_eq_getElem (by omega)
                have a1 := e1 q _ hxq
                rw [Addr.add_mid, Nat.zero_add] at a1
                rw [a1] at hc
                obtain rfl := Option.some.inj hc
                have a2 := e2 q xs[q] (by rw [List.getElem?_append_left (by omega)]; exact hxq)
                rw [Addr.add_mid, Nat.zero_add] at a2
                exact a2
              · refine ⟨w.heap.size, hg, .inr ⟨rfl, hlt⟩, fun b hb _ => hgb.block b hb (by simp), fun hg2 => ?_⟩
                have := (hst.lies id _ _ hku hg2).2; omega
            obtain ⟨g', hg', hcase', hblk, hpre⟩ := hrest
            obtain ⟨he, hs2⟩ := hst.grow (x := (rows.length + news.length) * j.size) (ob := .row e' j.size (rows.length + news.length)) (List.getElem?_eq_some_iff.1 hid).1 hI hku hm (by rw [Nat.add_mul]; omega) hb hg' hcase' hblk hpre (fun _ h => by cases h) (fun _ _ _ h => by cases h; exact ⟨rfl, rfl, _, hown'⟩) (fun _ _ _ h => by cases h)
            have hidlt := (List.getElem?_eq_some_iff.1 hku).1
            refine OpWp.value (hrun a _ _ _ (by rw [hveq]; exact hr)) ⟨_, ⟨?_, v', rows.length + news.length, by simp [hidlt], by simp, fun _ => rfl⟩, he, hs2⟩
            refine row_RD hown' (by rw [List.flatten_append]; exact (hxs.mono he.keep).append (hus.mono he.keep)) (by simp) (fun r hr => ?_) fun g hgg => ?_
            · rcases List.mem_append.1 hr with hr | hr
              · exact hrrows r hr
              · exact hnrows r hr
            · rw [hg'] at hgg; cases hgg
              exact Nat.le_of_eq (updI_self ..).symm
        · cases h
      · cases h
    · cases h
  · cases h

/-- A store into an own variable. -/
theorem St.store {B : Nat} {k : Cfg} {w w' : World} (h : St B k s w) {id b t : Nat} {us us' : List Value} {ds ds' : List AV} (hid : s[id]? = some (.cells ds)) (hk : k.own[id]? = some (.blk b)) (hh : w.heap[b]? = some (.cells us.toArray t (0, 0)))
    (hw : w' = w.setRow b us'.toArray) (hn : ∀ k' w', Ext B k w k' w' → RAs k' w' us' ds') : Ext B k w k w' ∧ St B k (s.set id (.cells ds')) w' := by
  subst hw
  have hidlt2 := (List.getElem?_eq_some_iff.1 hid).1
  obtain ⟨l1, l2⟩ := h.lies id _ b hk rfl
  have hI := h.blkI id b hk
  have he : Ext B k w k (w.setRow b us'.toArray) := by
    refine ⟨⟨rfl, rfl, rfl, by simp, fun j hj => setRow_other w b j _ (by omega)⟩, fun b' q u hq hc => ⟨hq, ?_⟩, fun _ _ => rfl, fun _ o' ho' => ⟨o', ho', OwnLe.refl _⟩⟩
    have hne : b' ≠ b := by rintro rfl; omega
    exact (World.cell?_of_block (w := w) (setRow_other w b b' _ hne)).trans hc
  refine ⟨he, by simpa using h.base, by simp [h.len], fun j cs hs => ?_, fun j e' sz' n' hs => ?_, fun j e' sz' cs hs => ?_, fun j o' b' ho' hbb => ?_, h.blkI, h.apart⟩
  · by_cases hj : j = id
    · subst hj
      simp [hidlt2] at hs
      subst hs
      exact ⟨b, t, us', hk, setRow_heap w b _ _ t (0, 0) hh, hn k _ he⟩
    · rw [List.getElem?_set_ne (Ne.symm hj)] at hs
      obtain ⟨b', t', vs, h1, h2, h3⟩ := h.cells j cs hs
      have hne : b' ≠ b := fun e => h.apart j id _ _ b' hj h1 hk rfl (by rw [e]; rfl)
      exact ⟨b', t', vs, h1, by rw [setRow_other w b b' _ hne]; exact h2, h3.mono he⟩
  · have hj : j ≠ id := by rintro rfl; simp [hidlt2] at hs
    rw [List.getElem?_set_ne (Ne.symm hj)] at hs
    obtain ⟨u, ys, h1, h2, h3⟩ := h.row j e' sz' n' hs
    refine ⟨u, ys, h1, ⟨h2.1, ?_⟩, h3⟩
    rcases h2.2 with e1 | ⟨g, cap, cur, e1, e2, e3, e4⟩
    · exact .inl e1
    · have hne : g ≠ b := fun e => h.apart j id _ _ g hj h1 hk (by rw [e1]; rfl) (by rw [e]; rfl)
      exact .inr ⟨g, cap, cur, e1, e2, by rw [setRow_other w b g _ hne]; exact e3, e4⟩
  · have hj : j ≠ id := by rintro rfl; simp [hidlt2] at hs
    rw [List.getElem?_set_ne (Ne.symm hj)] at hs
    obtain ⟨u, n2, ys, h1, h2, h3, h4, h5⟩ := h.vec j e' sz' cs hs
    refine ⟨u, n2, ys, h1, ⟨h2.1, ?_⟩, h3, h4, h5.mono he⟩
    rcases h2.2 with e1 | ⟨g, cap, cur, e1, e2, e3, e4⟩
    · exact .inl e1
    · have hne : g ≠ b := fun e => h.apart j id _ _ g hj h1 hk (by rw [e1]; rfl) (by rw [e]; rfl)
      exact .inr ⟨g, cap, cur, e1, e2, by rw [setRow_other w b g _ hne]; exact e3, e4⟩
  · obtain ⟨m1, m2⟩ := h.lies j o' b' ho' hbb
    exact ⟨m1, by simpa using m2⟩

theorem ok_st {t : TypeId} {i : TypeInfo} {p q : Operand} {x y : X} (ho : o.op = .store t p q) (hi : P.info? t = some i) (hx : cX P 0 p = some x) (hy : cX P t q = some y) (h : (CI.st i.size x y).sem fr s = some (d, s')) : AOp P o fr s d s' := by
  have hp : p ∈ o.op.operands := by rw [ho]; simp [Op.operands]
  have hq : q ∈ o.op.operands := by rw [ho]; simp [Op.operands]
  simp only [CI.sem] at h
  split at h
  · rename_i id off vs hc hv
    split at h
    · rename_i cs hid
      split at h
      · rename_i hcc
        obtain ⟨hm, hoff⟩ := hcc
        obtain ⟨rfl, rfl⟩ := Prod.mk.inj (Option.some.inj h)
        obtain ⟨c, hc1, hc2⟩ := Option.bind_eq_some_iff.1 hv
        intro B k a w hops hst
        obtain ⟨b, hb, hva⟩ : RL k w (a.eval p) (.ptr id off) := ev_ok hops hp hx hc
        have hcells := (ev_ok hops hq hy hc1).cells hc2
        obtain ⟨b', t', us, g1, g2, g3⟩ := hst.cells id cs hid
        rw [hb] at g1; simp at g1; subst g1
        have hlen : (a.eval q).cells.toList.length = i.size := by rw [hcells.1, hm]
        have hsz : (a.eval q).cells.size = i.size := by simpa using hlen
        have hst1 := run_storeCells_at P b off t' (a.eval q).cells.toList 0 us.toArray w g2 (by have := g3.1; simp; omega) hcells.2.1
        obtain ⟨he, hs2⟩ := hst.store (us' := us.take off ++ (a.eval q).cells.toList ++ us.drop (off + i.size)) (ds' := cs.take off ++ vs ++ cs.drop (off + i.size)) hid hb g2 rfl
          fun k' w' he => (((g3.mono he).take off).append (hcells.mono he)).append ((g3.mono he).drop _)
        refine OpWp.skip (w' := w.setRow b (us.take off ++ (a.eval q).cells.toList ++ us.drop (off + i.size)).toArray) ?_ ⟨k, RA.undf, he, hs2⟩
        unfold execOp; rw [ho]
        refine run_unit ?_
        have hne : ¬ ((a.eval q).cells.size ≠ i.size) := fun hh => hh hsz
        simp only [Instr.storeAt, hva, Instr.sureAddr, storeVar, sizeOf, typeInfo, Sem.run_bind, Sem.run_pure, Result.andThen_ok, run_program, hi, if_neg hne]
        rw [hst1]
        simp [hlen]
        done
      · cases h
    · cases h
  · rename_i id n off vs hc hv
    split at h
    · rename_i e sz ds hid
      split at h
      · rename_i hcc
        obtain ⟨c1, c2, hm, hoff⟩ := hcc
        obtain ⟨rfl, rfl⟩ := Prod.mk.inj (Option.some.inj h)
        obtain ⟨c, hc1, hc2⟩ := Option.bind_eq_some_iff.1 hv
        intro B k a w hops hst
        obtain ⟨b, hva, hb⟩ : RL k w (a.eval p) (.vptr id n off) := ev_ok hops hp hx hc
        obtain ⟨u, xs, cap, cur, g1, g2, g3, g4, g5, g6, g7, g8, g9, g10, g11, g12⟩ := vec_at hst hid c1 c2 hb
        have hcells := (ev_ok hops hq hy hc1).cells hc2
        have hlen : (a.eval q).cells.toList.length = i.size := by rw [hcells.1, hm]
        have hsz : (a.eval q).cells.size = i.size := by simpa using hlen
        have hle : n * sz ≤ cap * sz := Nat.mul_le_mul_right _ g6
        have hst1 := run_storeCells_at P b off e (a.eval q).cells.toList 0 cur w g5 (by omega) hcells.2.1
        have hidlt2 := (List.getElem?_eq_some_iff.1 hid).1
        have hcur : (cur.toList.take off ++ (a.eval q).cells.toList ++ cur.toList.drop (off + i.size)).take (n * sz) = xs.take off ++ (a.eval q).cells.toList ++ xs.drop (off + i.size) := by
          rw [← g9]
          have hcl : cur.toList.length = cap * sz := by simpa using g8
          refine List.ext_getElem? fun r => ?_
          simp only [List.append_assoc, List.getElem?_append, List.getElem?_take, List.getElem?_drop, List.length_take, hlen, hcl]
          repeat' split
          all_goals first
            | rfl
            | omega
            | (congr 1; omega)
            | (exfalso; omega)
            | (simp_all; done)
            | (symm; apply List.getElem?_eq_none; omega)
            | (apply List.getElem?_eq_none; omega)
        have he : Ext B k w k (w.setRow b (cur.toList.take off ++ (a.eval q).cells.toList ++ cur.toList.drop (off + i.size)).toArray) := by
          refine ⟨⟨rfl, rfl, rfl, by simp, fun j hj => setRow_other w b j _ (by omega)⟩, fun b' q' u hq' hc' => ⟨hq', ?_⟩, fun _ _ => rfl, fun _ o' ho' => ⟨o', ho', OwnLe.refl _⟩⟩
          have hne : b' ≠ b := by rintro rfl; omega
          exact (World.cell?_of_block (w := w) (setRow_other w b b' _ hne)).trans hc'
        have hub : u.ownBlock = some b := by rw [g3]; rfl
        have hs2 : St B k (s.set id (.vec e sz (ds.take off ++ vs ++ ds.drop (off + i.size)))) (w.setRow b (cur.toList.take off ++ (a.eval q).cells.toList ++ cur.toList.drop (off + i.size)).toArray) := by
          refine ⟨by simpa using hst.base, by simp [hst.len], fun j cs hs => ?_, fun j e' sz' n' hs => ?_, fun j e' sz' cs hs => ?_, fun j o' b' ho' hbb => ?_, hst.blkI, hst.apart⟩
          · have hj : j ≠ id := by rintro rfl; simp [hidlt2] at hs
            rw [List.getElem?_set_ne (Ne.symm hj)] at hs
            obtain ⟨b', t', ys, h1, h2, h3⟩ := hst.cells j cs hs
            have hne : b' ≠ b := fun e => hst.apart j id _ _ b' hj h1 g1 rfl (by rw [e]; exact hub)
            exact ⟨b', t', ys, h1, by rw [setRow_other w b b' _ hne]; exact h2, h3.mono he⟩
          · have hj : j ≠ id := by rintro rfl; simp [hidlt2] at hs
            rw [List.getElem?_set_ne (Ne.symm hj)] at hs
            obtain ⟨u', ys, h1, h2, h3⟩ := hst.row j e' sz' n' hs
            refine ⟨u', ys, h1, ⟨h2.1, ?_⟩, h3⟩
            rcases h2.2 with e1 | ⟨g, cap', cur', e1, e2, e3, e4⟩
            · exact .inl e1
            · have hne : g ≠ b := fun e => hst.apart j id _ _ g hj h1 g1 (by rw [e1]; rfl) (by rw [e]; exact hub)
              exact .inr ⟨g, cap', cur', e1, e2, by rw [setRow_other w b g _ hne]; exact e3, e4⟩
          · by_cases hj : j = id
            · subst hj
              simp [hidlt2] at hs
              obtain ⟨rfl, rfl, rfl⟩ := hs
              have hl5 : (xs.take off ++ (a.eval q).cells.toList ++ xs.drop (off + i.size)).length = n * sz := by
                have := g10.1
                simp only [List.length_append, List.length_take, List.length_drop, hlen]; omega
              refine ⟨u, n, xs.take off ++ (a.eval q).cells.toList ++ xs.drop (off + i.size), g1, ⟨hl5, .inr ⟨b, cap, _, g3, g4, setRow_heap w b _ _ e (0, 0) g5, g6, g7, ?_, ?_⟩⟩, fun g hg => ?_, ?_, by simpa [List.append_assoc] using (((g10.mono he).take off).append (hcells.mono he)).append ((g10.mono he).drop (off + i.size))⟩
              · have hcl : cur.toList.length = cap * sz := by simpa using g8
                simp only [List.size_toArray, List.length_append, List.length_take, List.length_drop, hlen, hcl]; omega
              · exact hcur
              · rw [hub] at hg; cases hg; exact g11
              · simp only [List.length_append, List.length_take, List.length_drop, hm]; omega
            · rw [List.getElem?_set_ne (Ne.symm hj)] at hs
              obtain ⟨u', n2, ys, h1, h2, h3, h4, h5⟩ := hst.vec j e' sz' cs hs
              refine ⟨u', n2, ys, h1, ⟨h2.1, ?_⟩, h3, h4, h5.mono he⟩
              rcases h2.2 with e1 | ⟨g, cap', cur', e1, e2, e3, e4⟩
              · exact .inl e1
              · have hne : g ≠ b := fun e => hst.apart j id _ _ g hj h1 g1 (by rw [e1]; rfl) (by rw [e]; exact hub)
                exact .inr ⟨g, cap', cur', e1, e2, by rw [setRow_other w b g _ hne]; exact e3, e4⟩
          · obtain ⟨m1, m2⟩ := hst.lies j o' b' ho' hbb
            exact ⟨m1, by simpa using m2⟩
        refine OpWp.skip (w' := w.setRow b (cur.toList.take off ++ (a.eval q).cells.toList ++ cur.toList.drop (off + i.size)).toArray) ?_ ⟨k, RA.undf, he, hs2⟩
        unfold execOp; rw [ho]
        refine run_unit ?_
        have hne : ¬ ((a.eval q).cells.size ≠ i.size) := fun hh => hh hsz
        simp only [Instr.storeAt, hva, Instr.sureAddr, storeVar, sizeOf, typeInfo, Sem.run_bind, Sem.run_pure, Result.andThen_ok, run_program, hi, if_neg hne]
        rw [hst1]
        simp [hlen]
        done
      · cases h
    · cases h
  · cases h

/-! ### Rows that are made -/

theorem chunk_len {α : Type} (sz : Nat) : ∀ (n : Nat) (l : List α), (chunk sz n l).length = n
  | 0, _ => rfl
  | n + 1, l => by simp [chunk, chunk_len sz n]
theorem chunk_flat {α : Type} (sz : Nat) : ∀ (n : Nat) (l : List α), l.length = n * sz → (chunk sz n l).flatten = l ∧ ∀ r ∈ chunk sz n l, r.length = sz
  | 0, l, h => by
    obtain rfl : l = [] := List.eq_nil_of_length_eq_zero (by simpa using h)
    exact ⟨rfl, by simp [chunk]⟩
  | n + 1, l, h => by
    rw [Nat.add_mul] at h
    obtain ⟨h1, h2⟩ := chunk_flat sz n (l.drop sz) (by simp; omega)
    refine ⟨by rw [chunk, List.flatten_cons, h1, List.take_append_drop], fun r hr => ?_⟩
    rw [chunk] at hr
    rcases List.mem_cons.1 hr with rfl | hr
    · simp; omega
    · exact h2 r hr

/-- A new row, whose first n elements are told. -/
theorem made_ok {B : Nat} {k : Cfg} {w : World} (hst : St B k s w) {mu : Bool} {e sz n cap : Nat} {cur : Array Value} {cs : List AV} (hcs : RAs k w (cur.toList.take (n * sz)) cs) (hn : cs.length = n * sz) (hsz : cur.size = cap * sz) (hnc : n ≤ cap) (hcm : cap ≤ 9223372036854775807)
    (h : (if mu then some (AV.vec s.length n sz, s ++ [AObj.vec e sz cs]) else match toLs cs with
      | some ds => some (.tsl s.length sz (chunk sz n ds), s ++ [.row e sz n])
      | none => none) = some (d, s')) :
    ∃ k', RA k' (w.alloc (.cells cur e)) (.slice (some ⟨w.heap.size, 0, none⟩) n cap) d ∧ Ext B k w k' (w.alloc (.cells cur e)) ∧ St B k' s' (w.alloc (.cells cur e)) := by
  have hb : Below w.heap.size w (w.alloc (.cells cur e)) := (Below.refl _ _).alloc (Nat.le_refl _) _
  have hh : (w.alloc (.cells cur e)).heap[w.heap.size]? = some (.cells cur e (0, 0)) := heap_alloc_new w _
  have hown : (w.alloc (.cells cur e)).ownsRow B e sz (.slice (some ⟨w.heap.size, 0, none⟩) n cap) n (cur.toList.take (n * sz)) :=
    ⟨by rw [hcs.1, hn], .inr ⟨w.heap.size, cap, cur, rfl, hst.base, hh, hnc, by unfold maxLen; exact hcm, hsz, rfl⟩⟩
  have hext : ∀ x, Ext B k w ⟨updI k.I w.heap.size x, k.own ++ [.row (.slice (some ⟨w.heap.size, 0, none⟩) n cap) n]⟩ (w.alloc (.cells cur e)) := fun x =>
    Ext.fresh hst.base hb (fun b hb => updI_ne _ _ (by omega)) _ fun id o' ho => ⟨o', getElem?_snoc_old _ ho, OwnLe.refl _⟩
  cases mu with
  | true =>
    obtain ⟨rfl, rfl⟩ := Prod.mk.inj (Option.some.inj (by simpa using h))
    obtain ⟨he, hs2⟩ := hst.new hb (by simp) 0 (.row (.slice (some ⟨w.heap.size, 0, none⟩) n cap) n) (.vec e sz cs) rfl (fun _ h => by cases h) (fun _ h => by cases h) (fun _ _ _ h => by cases h)
      (fun _ _ _ h => by cases h; exact ⟨_, n, _, rfl, hown, rfl, hn, hcs.mono (hext 0)⟩)
    exact ⟨_, ⟨⟨_, _, rfl⟩, _, n, by rw [← hst.len]; simp, Nat.le_refl _, fun _ => rfl⟩, he, hs2⟩
  | false =>
    simp only [Bool.false_eq_true, if_false] at h
    split at h
    · rename_i ds hds
      obtain ⟨rfl, rfl⟩ := Prod.mk.inj (Option.some.inj h)
      obtain ⟨he, hs2⟩ := hst.new hb (by simp) (n * sz) (.row (.slice (some ⟨w.heap.size, 0, none⟩) n cap) n) (.row e sz n) rfl (fun _ h => by cases h) (fun _ h => by cases h)
        (fun _ _ _ h => by cases h; exact ⟨_, _, rfl, hown, rfl⟩) (fun _ _ _ h => by cases h)
      have hl := (toLs_get hds).1
      obtain ⟨hf1, hf2⟩ := chunk_flat sz n ds (by omega)
      refine ⟨_, ⟨?_, _, n, by rw [← hst.len]; simp, by rw [chunk_len]; exact Nat.le_refl _, fun _ => rfl⟩, he, hs2⟩
      refine row_RD hown (by rw [hf1]; exact (hcs.toLs hds).mono he.keep) (chunk_len sz n ds) hf2 fun g hg => ?_
      cases hg
      exact Nat.le_of_eq (updI_self ..).symm
    · cases h

theorem ok_bsl {mu : Bool} {t : TypeId} {n : Nat} {parts : Array (Nat × Operand)} {e sz n' : Nat} {z : List AV} {qs : List (Nat × Nat × X)} (ho : o.op = .buildSlice t n parts) (hc : compBsl P mu t n parts.toList = some (.bsl mu e sz n' z qs))
    (h : (CI.bsl mu e sz n' z qs).sem fr s = some (d, s')) : AOp P o fr s d s' := by
  unfold compBsl at hc
  split at hc
  · rename_i e hu
    split at hc
    · rename_i ie hie
      split at hc
      · rename_i z0 hz
        split at hc
        · rename_i hcc
          obtain ⟨c1, c2, c3⟩ := hcc
          obtain ⟨qs', hq, he⟩ := Option.map_eq_some_iff.1 hc
          cases he
          simp only [CI.sem] at h
          split at h
          · rename_i cs hcs
            split at h
            · rename_i hcc2
              obtain ⟨d1, d2⟩ := hcc2
              intro B k a w hops hst
              have hmem : ∀ x ∈ parts.toList, x.2 ∈ o.op.operands := fun x hx => by
                rw [ho]; simp only [Op.operands]; simp; exact ⟨x.1, by simpa using hx⟩
              obtain ⟨arr', g1, g2⟩ := fill_ok (a := a) hops hq hmem (zCells_ok (P := P) (t := e) (fun u hu => Array.all_eq_true_iff_forall_mem.1 c3 u (by simpa using hu)) k w) hcs
              have hl : arr'.size = n * ie.size := by have := g2.1; simp at this; omega
              obtain ⟨k', m1, m2, m3⟩ := made_ok hst (mu := mu) (e := e) (sz := ie.size) (n := n) (cap := n) (cur := arr') (cs := cs) (by rw [List.take_of_length_le (by simp; omega)]; exact g2) d1 hl (Nat.le_refl _) d2 h
              refine OpWp.value (v := .slice (some ⟨w.heap.size, 0, none⟩) n n) (w' := w.alloc (.cells arr' e)) ?_ ⟨k', m1, m2, m3⟩
              unfold execOp; rw [ho]
              refine run_value ?_
              have hne : ¬ (n * ie.size > 2 ^ 24) := by omega
              have g1' : Instr.fill (fun i => some (i * ie.size, ie.size)) (zeros z0.cells (n * ie.size)) (parts.map fun x => (x.1, a.eval x.2)).toList = some arr' := by rw [← g1]; simp
              by_cases h0 : n * ie.size = 0
              · have hzz : ∀ zz : Array Value, (Array.range (n * ie.size)).map (fun x => zz[x % zz.size]!) = zeros z0.cells (n * ie.size) := fun zz => by rw [h0]; simp [zeros]
                simp only [Instr.buildSlice, Sem.run_bind, run_underlying hu, Result.andThen_ok, sizeOf, typeInfo, run_program, hie, Sem.run_pure, if_neg hne, if_pos h0, hzz, g1', newRow, run_newObj]
                rfl
              · have hzz : (Array.range (n * ie.size)).map (fun x => z0.cells[x % z0.cells.size]!) = zeros z0.cells (n * ie.size) := rfl
                simp only [Instr.buildSlice, Sem.run_bind, run_underlying hu, Result.andThen_ok, sizeOf, typeInfo, run_program, hie, Sem.run_pure, if_neg hne, if_neg h0, zeroValue, hz, hzz, g1', newRow, run_newObj]
                rfl
            · cases h
          · cases h
        · cases hc
      · cases hc
    · cases hc
  · cases hc

theorem frozen_ok {B : Nat} {k : Cfg} {w : World} (hst : St B k s w) {e sz n cap : Nat} {cur : Array Value} {cs : List AV} (hcs : RAs k w (cur.toList.take (n * sz)) cs) (hn : cs.length = n * sz) (hsz : cur.size = cap * sz) (hnc : n ≤ cap) (hcm : cap ≤ 9223372036854775807)
    (h : (match toLs cs with
      | some ds => some (AV.d (.sl sz (chunk sz n ds)), s)
      | none => none) = some (d, s')) :
    ∃ k', RA k' (w.alloc (.cells cur e)) (.slice (some ⟨w.heap.size, 0, none⟩) n cap) d ∧ Ext B k w k' (w.alloc (.cells cur e)) ∧ St B k' s' (w.alloc (.cells cur e)) := by
  have hb : Below w.heap.size w (w.alloc (.cells cur e)) := (Below.refl _ _).alloc (Nat.le_refl _) _
  have hh : (w.alloc (.cells cur e)).heap[w.heap.size]? = some (.cells cur e (0, 0)) := heap_alloc_new w _
  have hown : (w.alloc (.cells cur e)).ownsRow B e sz (.slice (some ⟨w.heap.size, 0, none⟩) n cap) n (cur.toList.take (n * sz)) :=
    ⟨by rw [hcs.1, hn], .inr ⟨w.heap.size, cap, cur, rfl, hst.base, hh, hnc, by unfold maxLen; exact hcm, hsz, rfl⟩⟩
  split at h
  · rename_i ds hds
    obtain ⟨rfl, rfl⟩ := Prod.mk.inj (Option.some.inj h)
    have he := Ext.called (k := k) hst.base hb
    have hl := (toLs_get hds).1
    obtain ⟨hf1, hf2⟩ := chunk_flat sz n ds (by omega)
    refine ⟨_, ?_, he, hst.called hb⟩
    refine row_RD hown (by rw [hf1]; exact (hcs.toLs hds).mono he.keep) (chunk_len sz n ds) hf2 fun g hg => ?_
    cases hg
    have hb2 : bigI k.I w.heap.size (w.alloc (.cells cur e)) w.heap.size = cur.size := by
      unfold bigI cellsIn
      rw [if_neg (Nat.lt_irrefl _), hh]
    show n * sz ≤ bigI k.I w.heap.size (w.alloc (.cells cur e)) w.heap.size
    rw [hb2, hsz]; exact Nat.mul_le_mul_right _ hnc
  · cases h

theorem ok_bsf {t : TypeId} {n : Nat} {parts : Array (Nat × Operand)} {sz n' : Nat} {z : List AV} {qs : List (Nat × Nat × X)} (ho : o.op = .buildSlice t n parts) (hc : compBsf P t n parts.toList = some (.bsf sz n' z qs))
    (h : (CI.bsf sz n' z qs).sem fr s = some (d, s')) : AOp P o fr s d s' := by
  unfold compBsf at hc
  split at hc
  · rename_i e hu
    split at hc
    · rename_i ie hie
      split at hc
      · rename_i z0 hz
        split at hc
        · rename_i hcc
          obtain ⟨c1, c2, c3⟩ := hcc
          obtain ⟨qs', hq, he⟩ := Option.map_eq_some_iff.1 hc
          cases he
          simp only [CI.sem] at h
          split at h
          · rename_i cs hcs
            split at h
            · rename_i hcc2
              obtain ⟨d1, d2⟩ := hcc2
              intro B k a w hops hst
              have hmem : ∀ x ∈ parts.toList, x.2 ∈ o.op.operands := fun x hx => by
                rw [ho]; simp only [Op.operands]; simp; exact ⟨x.1, by simpa using hx⟩
              obtain ⟨arr', g1, g2⟩ := fill_ok (a := a) hops hq hmem (zCells_ok (P := P) (t := e) (fun u hu => Array.all_eq_true_iff_forall_mem.1 c3 u (by simpa using hu)) k w) hcs
              have hl : arr'.size = n * ie.size := by have := g2.1; simp at this; omega
              obtain ⟨k', m1, m2, m3⟩ := frozen_ok hst (e := e) (sz := ie.size) (n := n) (cap := n) (cur := arr') (cs := cs) (by rw [List.take_of_length_le (by simp; omega)]; exact g2) d1 hl (Nat.le_refl _) d2 h
              refine OpWp.value (v := .slice (some ⟨w.heap.size, 0, none⟩) n n) (w' := w.alloc (.cells arr' e)) ?_ ⟨k', m1, m2, m3⟩
              unfold execOp; rw [ho]
              refine run_value ?_
              have hne : ¬ (n * ie.size > 2 ^ 24) := by omega
              have g1' : Instr.fill (fun i => some (i * ie.size, ie.size)) (zeros z0.cells (n * ie.size)) (parts.map fun x => (x.1, a.eval x.2)).toList = some arr' := by rw [← g1]; simp
              by_cases h0 : n * ie.size = 0
              · have hzz : ∀ zz : Array Value, (Array.range (n * ie.size)).map (fun x => zz[x % zz.size]!) = zeros z0.cells (n * ie.size) := fun zz => by rw [h0]; simp [zeros]
                simp only [Instr.buildSlice, Sem.run_bind, run_underlying hu, Result.andThen_ok, sizeOf, typeInfo, run_program, hie, Sem.run_pure, if_neg hne, if_pos h0, hzz, g1', newRow, run_newObj]
                rfl
              · have hzz : (Array.range (n * ie.size)).map (fun x => z0.cells[x % z0.cells.size]!) = zeros z0.cells (n * ie.size) := rfl
                simp only [Instr.buildSlice, Sem.run_bind, run_underlying hu, Result.andThen_ok, sizeOf, typeInfo, run_program, hie, Sem.run_pure, if_neg hne, if_neg h0, zeroValue, hz, hzz, g1', newRow, run_newObj]
                rfl
            · cases h
          · cases h
        · cases hc
      · cases hc
    · cases hc
  · cases hc

theorem zeros_one (z : Value) (n : Nat) : zeros #[z] n = (List.replicate n z).toArray := by
  unfold zeros
  apply Array.ext'
  simp
  refine List.ext_getElem? fun i => ?_
  simp only [List.getElem?_map, List.getElem?_replicate, List.getElem?_range']
  by_cases h : i < n
  · simp [h, Nat.mod_one]
  · simp [h]

theorem wrap64_id {n : Int} (h : 0 ≤ n) (h2 : n < 9223372036854775808) : IntKind.i64.wrap n = n := by
  simp only [IntKind.wrap, IntKind.bits, IntKind.signed]
  have : n % 2 ^ 64 = n := by omega
  simp only [this]
  simp; omega

theorem ok_mks {mu : Bool} {t : TypeId} {p q : Operand} {e bytes : Nat} {z : AV} {x y : X} (ho : o.op = .makeSlice t p q) (hc : compMks P mu t p q = some (.mks mu e bytes z x y)) (h : (CI.mks mu e bytes z x y).sem fr s = some (d, s')) : AOp P o fr s d s' := by
  have hp : p ∈ o.op.operands := by rw [ho]; simp [Op.operands]
  have hq : q ∈ o.op.operands := by rw [ho]; simp [Op.operands]
  unfold compMks at hc
  split at hc
  · rename_i e0 x0 y0 hu hx hy
    split at hc
    · rename_i ie hie
      split at hc
      · rename_i z0 hz
        split at hc
        · rename_i hcc
          obtain ⟨c1, c2, c3⟩ := hcc
          cases hc
          simp only [CI.sem] at h
          split at h
          · rename_i n m hn hm
            split at h
            · rename_i hcc2
              obtain ⟨d1, d2, d3, d4⟩ := hcc2
              intro B k a w hops hst
              have hp2 := int_ok hops hp hx hn
              have hq2 := int_ok hops hq hy hm
              have hzc : z0.cells = #[z0] := by cases z0 <;> first | rfl | simp [Value.oneCell'] at c2
              have hras : RAs k w (List.replicate n.toNat z0) (List.replicate n.toNat (cL P e z0)) := by
                refine ⟨by simp, fun u hu => ?_, fun i u d hu hd => ?_⟩
                · obtain ⟨_, rfl⟩ := List.mem_replicate.1 hu; exact c2
                · rw [List.getElem?_replicate] at hu hd
                  split at hu
                  · rename_i hlt
                    rw [if_pos hlt] at hd
                    cases hu; cases hd
                    exact cL_ok ..
                  · cases hu
              have htake : (zeros #[z0] m.toNat).toList.take (n.toNat * 1) = List.replicate n.toNat z0 := by
                rw [zeros_one]; simp [List.take_replicate]; omega
              have hcsz : (zeros #[z0] m.toNat).size = m.toNat * 1 := by rw [zeros_one]; simp
              have hmade := made_ok hst (mu := mu) (e := e) (sz := 1) (n := n.toNat) (cap := m.toNat) (cur := zeros #[z0] m.toNat) (cs := List.replicate n.toNat (cL P e z0)) (d := d) (s' := s') (by rw [htake]; exact hras) (by simp) hcsz (by omega) (by omega) (by
                cases mu with
                | true => simpa using h
                | false =>
                  simp only [Bool.false_eq_true, if_false] at h ⊢
                  split at h
                  · rename_i dz hdz
                    have ht : ∀ k : Nat, toLs (List.replicate k (cL P e z0)) = some (List.replicate k dz) := fun k => by
                      induction k with
                      | zero => rfl
                      | succ k ih => simp [List.replicate_succ, toLs, hdz, ih]
                    have hch : ∀ k : Nat, chunk 1 k (List.replicate k dz) = List.replicate k [dz] := fun k => by
                      induction k with
                      | zero => rfl
                      | succ k ih => simp [List.replicate_succ, chunk, ih]
                    rw [ht]
                    simp only [hch]
                    exact h
                  · cases h)
              obtain ⟨k', m1, m2, m3⟩ := hmade
              refine OpWp.value (v := .slice (some ⟨w.heap.size, 0, none⟩) n.toNat m.toNat) (w' := w.alloc (.cells (zeros #[z0] m.toNat) e)) ?_ ⟨k', m1, m2, m3⟩
              unfold execOp; rw [ho]
              refine run_value ?_
              have hb1 : (1 : Int) ≤ ie.bytes := by omega
              have hmb : m * 1 ≤ m * (ie.bytes : Int) := Int.mul_le_mul_of_nonneg_left hb1 (by omega)
              have hw1 : IntKind.i64.wrap n = n := wrap64_id d1 (by omega)
              have hw2 : IntKind.i64.wrap m = m := wrap64_id (by omega) (by omega)
              have hlarge : (decide (m < 0) || decide ((ie.bytes : Int) * m > 2 ^ 48)) = false := by
                rw [Int.mul_comm]; simp; omega
              have hcond : (((decide (m < 0) || decide ((ie.bytes : Int) * m > 2 ^ 48)) || decide (n < 0)) || decide (n > m)) = false := by
                rw [hlarge]; simp; omega
              have hzz : ∀ zz : Array Value, (m.toNat = 0 ∨ zz = #[z0]) → (Array.range (m.toNat * 1)).map (fun x => zz[x % zz.size]!) = zeros #[z0] m.toNat := fun zz hz0 => by
                rcases hz0 with h0 | rfl
                · rw [h0]; simp [zeros]
                · rw [Nat.mul_one]; rfl
              by_cases h0 : m.toNat * 1 = 0
              · simp only [Instr.makeSlice, hp2, hq2, asInt, asIntOf, Sem.run_bind, run_underlying hu, Result.andThen_ok, sizeOf, typeInfo, run_program, hie, Sem.run_pure, hw1, hw2, hcond, Bool.false_eq_true, if_false, run_askRoom, c1, if_pos h0, hzz _ (Or.inl (by omega : m.toNat = 0)), newRow, run_newObj]
                rfl
              · simp only [Instr.makeSlice, hp2, hq2, asInt, asIntOf, Sem.run_bind, run_underlying hu, Result.andThen_ok, sizeOf, typeInfo, run_program, hie, Sem.run_pure, hw1, hw2, hcond, Bool.false_eq_true, if_false, run_askRoom, c1, if_neg h0, zeroValue, hz, hzc, hzz _ (Or.inr rfl), newRow, run_newObj]
                rfl
            · cases h
          · cases h
        · cases hc
      · cases hc
    · cases hc
  · cases hc
end
end Go.Ab

namespace Go.Ab
open Go Go.RowKit

theorem compOp_ok {P : Program} {mus : List Nat} {o : Oper} {ci : CI} (h : compOp P mus o = some ci) {fr : Fr} {s : List AObj} {d : AV} {s' : List AObj} (hs : ci.sem fr s = some (d, s')) : AOp P o fr s d s' := by
  unfold compOp at h
  split at h
  · rename_i x ho
    obtain ⟨y, hy, rfl⟩ := Option.map_eq_some_iff.1 h
    exact ok_mov (.inl ho) hy hs
  · rename_i x ho
    obtain ⟨y, hy, rfl⟩ := Option.map_eq_some_iff.1 h
    exact ok_mov (.inr ho) hy hs
  · rename_i c a b ho
    split at h
    · rename_i x y z h1 h2 h3; obtain rfl := Option.some.inj h; exact ok_pick ho h1 h2 h3 hs
    · cases h
  · rename_i t x ho
    split at h
    · rename_i n x h1 h2; obtain rfl := Option.some.inj h; exact ok_ld ho h1 h2 hs
    · cases h
  · rename_i t x v ho
    split at h
    · rename_i i x y h1 h2 h3; obtain rfl := Option.some.inj h; exact ok_st ho h1 h2 h3 hs
    · cases h
  · rename_i t x f ho
    split at h
    · rename_i fs x h1 h2
      split at h
      · rename_i fd h3
        split at h
        · cases h
        · rename_i h4; obtain rfl := Option.some.inj h; exact ok_fad ho h1 h3 h4 h2 hs
      · cases h
    · cases h
  · rename_i t x i ho
    split at h
    · rename_i e x y h1 h2 h3
      split at h
      · rename_i j h4; obtain rfl := Option.some.inj h; exact ok_iad ho h1 h4 h2 h3 hs
      · cases h
    · rename_i n e x y h1 h2 h3
      split at h
      · rename_i j h4; obtain rfl := Option.some.inj h; exact ok_iap ho h1 h4 h2 h3 hs
      · cases h
    · cases h
  · rename_i t x f ho
    split at h
    · rename_i fs x h1 h2
      split at h
      · rename_i fd h3
        split at h
        · rename_i n h4; obtain rfl := Option.some.inj h; exact ok_fld ho h1 h3 h4 h2 hs
        · cases h
      · cases h
    · cases h
  · rename_i x i ho
    obtain ⟨y, hy, rfl⟩ := Option.map_eq_some_iff.1 h
    exact ok_ext ho hy hs
  · rename_i op t x y t' ho
    split at h
    · rename_i x y h1 h2; obtain rfl := Option.some.inj h; exact ok_bin ho h1 h2 hs
    · cases h
  · rename_i t x ho
    obtain ⟨y, hy, rfl⟩ := Option.map_eq_some_iff.1 h
    exact ok_not ho hy hs
  · rename_i t x lo hi ho
    split at h
    · rename_i e x l h2 h3 h4 h5 h6
      split at h
      · rename_i j h7; obtain rfl := Option.some.inj h; exact ok_slc ho h3 h7 h4 h5 h6 hs
      · cases h
    · cases h
  · rename_i t x ho
    obtain ⟨y, hy, rfl⟩ := Option.map_eq_some_iff.1 h
    exact ok_box ho hy hs
  · rename_i t ho
    split at h
    · rename_i i h1
      split at h
      · rename_i z h2
        obtain ⟨c, hc, rfl⟩ := Option.map_eq_some_iff.1 h
        exact ok_alc ho h1 h2 hc hs
      · cases h
    · cases h
  · rename_i t parts ho
    have hci : ∃ z qs, ci = .bld z qs := by
      unfold compBuild at h
      (repeat' split at h) <;> first | (cases h; done) | (obtain ⟨qs, _, he⟩ := Option.map_eq_some_iff.1 h; exact ⟨_, _, he.symm⟩)
    obtain ⟨z, qs, rfl⟩ := hci
    exact ok_bld ho h hs
  · rename_i t n parts ho
    split at h
    · have hci : ∃ sz z qs, ci = .bsf sz n z qs := by
        unfold compBsf at h
        (repeat' split at h) <;> first | (cases h; done) | (obtain ⟨qs, _, he⟩ := Option.map_eq_some_iff.1 h; exact ⟨_, _, _, he.symm⟩)
      obtain ⟨sz, z, qs, rfl⟩ := hci
      exact ok_bsf ho h hs
    · have hci : ∃ e sz z qs, ci = .bsl ((o.dst.map mus.contains).getD false) e sz n z qs := by
        unfold compBsl at h
        (repeat' split at h) <;> first | (cases h; done) | (obtain ⟨qs, _, he⟩ := Option.map_eq_some_iff.1 h; exact ⟨_, _, _, _, he.symm⟩)
      obtain ⟨e, sz, z, qs, rfl⟩ := hci
      exact ok_bsl ho h hs
  · rename_i t l c ho
    have hci : ∃ e b z x y, ci = .mks ((o.dst.map mus.contains).getD false) e b z x y := by
      unfold compMks at h
      (repeat' split at h) <;> first | (cases h; done) | (obtain rfl := Option.some.inj h; exact ⟨_, _, _, _, _, rfl⟩)
    obtain ⟨e, b, z, x, y, rfl⟩ := hci
    exact ok_mks ho h hs
  · rename_i src dst x ho
    split at h
    · rename_i k' k x h1 h2 h3; obtain rfl := Option.some.inj h; exact ok_cnv ho h1 h2 h3 hs
    · cases h
  · rename_i x ho
    obtain ⟨y, hy, rfl⟩ := Option.map_eq_some_iff.1 h
    exact ok_nck ho hy hs
  · rename_i c ho
    obtain ⟨callee, args, tys⟩ := c
    obtain ⟨args⟩ := args
    obtain ⟨tys⟩ := tys
    unfold compCall at h
    dsimp only at h
    split at h
    · unfold compLen at h
      split at h
      · split at h
        · rename_i e x h1 h2; obtain rfl := Option.some.inj h; exact ok_len ho h1 h2 hs
        · rename_i x h1 h2; obtain rfl := Option.some.inj h; exact ok_lens ho h1 h2 hs
        · cases h
      · cases h
    · unfold compApp at h
      split at h
      · split at h
        · rename_i e x y h1 h2 h3
          split at h
          · rename_i j h4
            split at h
            · rename_i z h5
              split at h
              · rename_i h6
                obtain ⟨rfl, h7, h8⟩ := h6
                obtain rfl := Option.some.inj h
                exact ok_app ho h1 h4 h5 h7 h2 h3 hs
              · cases h
            · cases h
          · cases h
        · cases h
      · cases h
    · rename_i f
      obtain ⟨y, hy, rfl⟩ := Option.map_eq_some_iff.1 h
      simp [CI.sem] at hs
    · cases h
  · cases h

theorem sem_read {ci : CI} {fr : Fr} {s : List AObj} {d : AV} {s' : List AObj} (h : ci.sem fr s = some (d, s')) (ht : ci.touch fr < 2) : s' = s := by
  cases ci with
  | ld n x =>
    cases n <;> simp only [CI.sem] at h <;> (repeat' split at h) <;> simp at h <;> first | exact h.2.symm | (obtain ⟨_, _, _, h⟩ := h; exact h.symm) | (obtain ⟨_, _, h⟩ := h; exact h.symm)
  | fld off n x =>
    cases n <;> simp only [CI.sem] at h <;> (repeat' split at h) <;> simp at h <;> first | exact h.2.symm | (obtain ⟨_, _, _, h⟩ := h; exact h.symm)
  | st n x v => simp [CI.touch] at ht
  | app mu e sz b x y => simp [CI.touch] at ht
  | box x => simp [CI.touch] at ht
  | bsl mu e sz n z ps => simp [CI.touch] at ht
  | mks mu e b z l c => simp [CI.touch] at ht
  | call f xs => simp [CI.sem] at h
  | _ => simp only [CI.sem] at h <;> (repeat' split at h) <;> simp at h <;> first | exact h.2.symm | (obtain ⟨_, _, _, h⟩ := h; exact h.symm) | (obtain ⟨_, _, h⟩ := h; exact h.symm)

theorem sem_free {ci : CI} {fr : Fr} {s : List AObj} {d : AV} {s' : List AObj} (h : ci.sem fr s = some (d, s')) (ht : ci.touch fr = 0) (s2 : List AObj) : ci.sem fr s2 = some (d, s2) := by
  have hs := sem_read h (by omega)
  subst hs
  cases ci with
  | ld n x =>
    simp only [CI.touch] at ht
    split at ht
    · rename_i y hy
      cases n <;> simp only [CI.sem, hy] at h ⊢
      · split at h <;> simp_all
      · split at h <;> first | (split at h <;> simp_all) | simp_all
    · cases ht
  | iad sz x i =>
    simp only [CI.touch] at ht
    split at ht
    · cases ht
    · rename_i hne
      simp only [CI.sem] at h ⊢
      split at h
      · cases h
      · rename_i n hn
        split at h
        · rename_i h0
          rw [if_pos h0]
          cases hr : slA sz (x.ev fr) with
          | none => rw [hr] at h; cases h
          | some rows =>
            rw [hr] at h
            dsimp only at h ⊢
            split at h
            · simp at h ⊢; exact h
            · cases h
        · cases h
  | st n x v => cases ht
  | app mu e sz b x y => cases ht
  | box x => cases ht
  | bsl mu e sz n z ps => cases ht
  | mks mu e b z l c => cases ht
  | call f xs => simp [CI.sem] at h
  | fld off n x =>
    cases n <;> simp only [CI.sem] at h ⊢ <;> (repeat' split at h) <;> simp_all
  | _ => simp only [CI.sem] at h ⊢ <;> (repeat' split at h) <;> simp_all

theorem sem_make {ci : CI} {fr : Fr} {s : List AObj} {d : AV} {s' : List AObj} (h : ci.sem fr s = some (d, s')) (ht : ci.touch fr = 3) : ∃ x, s' = s ++ [x] := by
  cases ci with
  | box x =>
    simp only [CI.sem] at h
    split at h
    · simp at h; exact ⟨_, h.2.symm⟩
    · cases h
  | bsl mu e sz n z ps =>
    simp only [CI.sem] at h
    split at h
    · split at h
      · split at h
        · simp at h; exact ⟨_, h.2.symm⟩
        · split at h
          · simp at h; exact ⟨_, h.2.symm⟩
          · cases h
      · cases h
    · cases h
  | mks mu e b z l c =>
    simp only [CI.sem] at h
    split at h
    · split at h
      · split at h
        · simp at h; exact ⟨_, h.2.symm⟩
        · split at h
          · simp at h; exact ⟨_, h.2.symm⟩
          · cases h
      · cases h
    · cases h
  | ld n x => simp only [CI.touch] at ht; split at ht <;> cases ht
  | iad sz x i => simp only [CI.touch] at ht; split at ht <;> cases ht
  | _ => simp [CI.touch] at ht

/-- A handle's block is there. -/
theorem handle_lt {B : Nat} {k : Cfg} {s : List AObj} {w : World} (hst : St B k s w) {v : Value} {id : Nat} {x : AV} (hx : (∃ off, x = .ptr id off) ∨ (∃ n off, x = .vptr id n off) ∨ (∃ n sz, x = .vec id n sz)) (h : RA k w v x) : id < s.length := by
  rw [← hst.len]
  rcases hx with ⟨off, rfl⟩ | ⟨n, off, rfl⟩ | ⟨n, sz, rfl⟩
  · obtain ⟨b, h1, _⟩ : RL k w v (.ptr id off) := h; exact (List.getElem?_eq_some_iff.1 h1).1
  · obtain ⟨b, _, u, n', h1, _⟩ : RL k w v (.vptr id n off) := h; exact (List.getElem?_eq_some_iff.1 h1).1
  · obtain ⟨_, u, n', h1, _⟩ : RL k w v (.vec id n sz) := h; exact (List.getElem?_eq_some_iff.1 h1).1

theorem reads_via {P : Program} {o : Oper} {fr : Fr} {s s2 : List AObj} {d : AV} {id n : Nat} {x : AV} (hp : Operand.tmp n ∈ o.op.operands) (hl : look fr n = some x) (hx : (∃ off, x = .ptr id off) ∨ (∃ n off, x = .vptr id n off) ∨ (∃ n sz, x = .vec id n sz))
    (ha : Agrees s s2) (hid : id < s.length) (h : s2[id]? = s[id]? → AOp P o fr s2 d s2) : AOp P o fr s2 d s2 := fun B k a w hops hst =>
  h (ha id hid (handle_lt hst hx (hops n x hp hl))) B k a w hops hst

theorem ev_slot {P : Program} {t : TypeId} {p : Operand} {x : X} (h : cX P t p = some x) {fr : Fr} {c : AV} (hc : x.ev fr = some c) (hn : ∀ y, x ≠ .c y) : ∃ n, p = .tmp n ∧ look fr n = some c := by
  cases p with
  | tmp n => simp [cX] at h; subst h; exact ⟨n, rfl, hc⟩
  | const v => unfold cX at h; obtain ⟨y, _, rfl⟩ := Option.map_eq_some_iff.1 h; exact absurd rfl (hn y)
  | global g => simp [cX] at h
  | func f => simp [cX] at h

theorem cA_plain {P : Program} {t : TypeId} {v : Value} {c : AV} (h : cA P t v = some c) : (∀ id off, c ≠ .ptr id off) ∧ (∀ id n off, c ≠ .vptr id n off) ∧ (∀ id n sz, c ≠ .vec id n sz) := by
  unfold cA at h
  split at h
  · split at h
    · cases h; exact ⟨(fun _ _ h => by cases h), (fun _ _ _ h => by cases h), (fun _ _ _ h => by cases h)⟩
    · cases h
  · cases h
    unfold cL
    split
    · split <;> exact ⟨(fun _ _ h => by cases h), (fun _ _ _ h => by cases h), (fun _ _ _ h => by cases h)⟩
    · exact ⟨(fun _ _ h => by cases h), (fun _ _ _ h => by cases h), (fun _ _ _ h => by cases h)⟩

theorem cX_slot {P : Program} {t : TypeId} {p : Operand} {x : X} (h : cX P t p = some x) {fr : Fr} {c : AV} (hc : x.ev fr = some c) {id : Nat} (hx : (∃ off, c = .ptr id off) ∨ (∃ n off, c = .vptr id n off) ∨ (∃ n sz, c = .vec id n sz)) : ∃ n, p = .tmp n ∧ look fr n = some c := by
  refine ev_slot h hc fun y hy => ?_
  subst hy
  cases hc
  cases p with
  | const v =>
    unfold cX at h
    obtain ⟨y', hy', he⟩ := Option.map_eq_some_iff.1 h
    cases he
    obtain ⟨h1, h2, h3⟩ := cA_plain hy'
    rcases hx with ⟨off, e⟩ | ⟨n, off, e⟩ | ⟨n, sz, e⟩
    · exact h1 _ _ e
    · exact h2 _ _ _ e
    · exact h3 _ _ _ e
  | tmp n => simp [cX] at h
  | global g => simp [cX] at h
  | func f => simp [cX] at h

theorem compOp_ld {P : Program} {mus : List Nat} {o : Oper} {n : Option Nat} {x : X} (h : compOp P mus o = some (.ld n x)) : ∃ t p, o.op = .load t p ∧ cX P 0 p = some x := by
  unfold compOp at h
  split at h
  all_goals first
    | (rename_i t y ho
       split at h
       · rename_i n' x' h1 h2; injection h with h; injection h with e1 e2; subst e2; exact ⟨t, y, ho, h2⟩
       · cases h)
    | (exfalso; obtain ⟨y, hy, he⟩ := Option.map_eq_some_iff.1 h; cases he; done)
    | (exfalso; unfold compBuild at h; (repeat' split at h) <;> first | (cases h; done) | (obtain ⟨qs, _, he⟩ := Option.map_eq_some_iff.1 h; cases he; done))
    | (exfalso; unfold compBsf compBsl at h; (repeat' split at h) <;> first | (cases h; done) | (obtain ⟨qs, _, he⟩ := Option.map_eq_some_iff.1 h; cases he; done))
    | (exfalso; unfold compMks at h; (repeat' split at h) <;> first | (cases h; done) | (injection h with h; cases h; done))
    | (exfalso; unfold compCall compLen compApp at h; (repeat' split at h) <;> first | (cases h; done) | (injection h with h; cases h; done) | (obtain ⟨qs, _, he⟩ := Option.map_eq_some_iff.1 h; cases he; done))
    | (exfalso; (repeat' split at h) <;> first | (cases h; done) | (injection h with h; cases h; done) | (obtain ⟨qs, _, he⟩ := Option.map_eq_some_iff.1 h; cases he; done))

theorem compOp_iad {P : Program} {mus : List Nat} {o : Oper} {sz : Nat} {x i : X} (h : compOp P mus o = some (.iad sz x i)) : ∃ t p q, o.op = .indexAddr t p q ∧ cX P 0 p = some x := by
  unfold compOp at h
  split at h
  all_goals first
    | (rename_i t y z ho
       split at h
       · rename_i e x' i' h1 h2 h3
         split at h
         · injection h with h; injection h with e1 e2 e3; subst e2; exact ⟨t, y, z, ho, h2⟩
         · cases h
       · exfalso
         split at h
         · injection h with h; cases h
         · cases h
       · cases h)
    | (exfalso; obtain ⟨y, hy, he⟩ := Option.map_eq_some_iff.1 h; cases he; done)
    | (exfalso; unfold compBuild at h; (repeat' split at h) <;> first | (cases h; done) | (obtain ⟨qs, _, he⟩ := Option.map_eq_some_iff.1 h; cases he; done))
    | (exfalso; unfold compBsf compBsl at h; (repeat' split at h) <;> first | (cases h; done) | (obtain ⟨qs, _, he⟩ := Option.map_eq_some_iff.1 h; cases he; done))
    | (exfalso; unfold compMks at h; (repeat' split at h) <;> first | (cases h; done) | (injection h with h; cases h; done))
    | (exfalso; unfold compCall compLen compApp at h; (repeat' split at h) <;> first | (cases h; done) | (injection h with h; cases h; done) | (obtain ⟨qs, _, he⟩ := Option.map_eq_some_iff.1 h; cases he; done))
    | (exfalso; (repeat' split at h) <;> first | (cases h; done) | (injection h with h; cases h; done) | (obtain ⟨qs, _, he⟩ := Option.map_eq_some_iff.1 h; cases he; done))

theorem lt_of_get {s : List AObj} {id : Nat} {x : AObj} (h : s[id]? = some x) : id < s.length := (List.getElem?_eq_some_iff.1 h).1

/-- What reads own blocks reads the same while others are made. -/
theorem op_reads {P : Program} {mus : List Nat} {o : Oper} {ci : CI} (hc : compOp P mus o = some ci) {fr : Fr} {s : List AObj} {d : AV} {s' : List AObj} (h : ci.sem fr s = some (d, s')) (ht : ci.touch fr = 1) (s2 : List AObj) (ha : Agrees s s2) : AOp P o fr s2 d s2 := by
  have hs := sem_read h (by omega)
  subst hs
  cases ci with
  | ld n x =>
    obtain ⟨t, p, ho, hx⟩ := compOp_ld hc
    have hp : ∀ m, p = .tmp m → Operand.tmp m ∈ o.op.operands := fun m e => by rw [ho, e]; simp [Op.operands]
    cases hX : x.ev fr with
    | none => cases n <;> simp [CI.sem, hX] at h
    | some c =>
      cases c with
      | ptr id off =>
        obtain ⟨m, hm, hl⟩ := cX_slot hx hX (.inl ⟨off, rfl⟩)
        have hid : id < s'.length := by
          cases n <;> simp only [CI.sem, hX] at h <;> split at h <;> first | (rename_i hh; exact lt_of_get hh) | cases h
        refine reads_via (hp m hm) hl (.inl ⟨off, rfl⟩) ha hid fun he => compOp_ok hc ?_
        cases n <;> simp only [CI.sem, hX, he] at h ⊢ <;> split at h <;> first | (split at h <;> simp_all; done) | simp_all
      | vptr id m' off =>
        obtain ⟨m, hm, hl⟩ := cX_slot hx hX (.inr (.inl ⟨m', off, rfl⟩))
        have hid : id < s'.length := by
          cases n <;> simp only [CI.sem, hX] at h <;> split at h <;> first | (rename_i hh; exact lt_of_get hh) | cases h
        refine reads_via (hp m hm) hl (.inr (.inl ⟨m', off, rfl⟩)) ha hid fun he => compOp_ok hc ?_
        cases n <;> simp only [CI.sem, hX, he] at h ⊢ <;> split at h <;> first | (cases h; done) | (split at h <;> first | (cases h; done) | (rename_i hh; rw [if_pos hh]; (first | (obtain ⟨y, hy, e⟩ := Option.map_eq_some_iff.1 h; injection e with e _; rw [hy, e]; rfl) | (injection h with h; injection h with h _; rw [h]))))
      | d y => simp [CI.touch, hX] at ht
      | _ => cases n <;> simp [CI.sem, hX] at h
  | iad sz x i =>
    obtain ⟨t, p, q, ho, hx⟩ := compOp_iad hc
    have hp : ∀ m, p = .tmp m → Operand.tmp m ∈ o.op.operands := fun m e => by rw [ho, e]; simp [Op.operands]
    cases hX : x.ev fr with
    | none => simp [CI.touch, hX] at ht
    | some c =>
      cases c with
      | vec id m' sz' =>
        obtain ⟨m, hm, hl⟩ := cX_slot hx hX (.inr (.inr ⟨m', sz', rfl⟩))
        have hid : id < s'.length := by
          simp only [CI.sem, hX] at h
          split at h
          · cases h
          · split at h
            · split at h
              · rename_i hh; exact lt_of_get hh
              · cases h
            · cases h
        refine reads_via (hp m hm) hl (.inr (.inr ⟨m', sz', rfl⟩)) ha hid fun he => compOp_ok hc ?_
        simp only [CI.sem, hX, he] at h ⊢
        split at h
        · cases h
        · split at h
          · rename_i h0
            rw [if_pos h0]
            split at h
            · split at h <;> simp_all
            · cases h
          · cases h
      | _ => simp [CI.touch, hX] at ht
  | _ => simp [CI.touch] at ht

/-! ### Lists of instructions -/

structure CO where
  dst : Option Nat
  g : Option (Option Nat × Bool)
  ci : CI

def gdC (fr : Fr) : Option (Option Nat × Bool) → Option Bool
  | none => some true
  | some (none, _) => some false
  | some (some t, want) => match look fr t with
    | some (.d (.sc (.bool b))) => some (b == want)
    | some (.d (.sc (.tuple _))) => some false
    | _ => none

def compO (P : Program) (mus : List Nat) (ops : Array Oper) (o : Oper) : Option CO :=
  match compOp P mus o with
  | some ci => some ⟨o.dst, match o.guard with
    | none => none
    | some (j, want) => some ((ops[j]?).bind (·.dst), want), ci⟩
  | none => none
def compL (P : Program) (mus : List Nat) (ops : Array Oper) : List Oper → Option (List CO)
  | [] => some []
  | o :: l => match compO P mus ops o, compL P mus ops l with
    | some c, some cs => some (c :: cs)
    | _, _ => none

/-- Either way: what is to hold if b is false, and if it is true. -/
def Both (b : Bool) (x y : Prop) : Prop := (b = false → x) ∧ (b = true → y)
theorem Both_true (x y : Prop) : Both true x y = y := by simp [Both]
theorem Both_false (x y : Prop) : Both false x y = x := by simp [Both]

@[congr] theorem Both_congr (b b' : Bool) (x y : Prop) (h : b = b') : Both b x y = Both b' x y := by rw [h]

/-- The walk of a list of instructions. -/
def wpC (P : Program) : List CO → (Fr → List AObj → List Nat → Prop) → List Nat → Fr → List AObj → Prop
  | [], K, acc, fr, s => K fr s acc.reverse
  | o :: l, K, acc, fr, s => match gdC fr o.g with
    | none => False
    | some b => Both b (wpC P l K (0 :: acc) (putF fr o.dst undefA) s) (match o.ci with
      | .call f xs => match evs fr xs with
        | some ds => ∃ r, AFn P f ds r ∧ wpC P l K (0 :: acc) (putF fr o.dst (.d r)) s
        | none => False
      | ci => match ci.sem fr s with
        | some (d, s') => wpC P l K (ci.touch fr :: acc) (putF fr o.dst d) s'
        | none => False)

/-- A call that is still to be met. -/
def CallK (P : Program) (f : FuncId) (ds : List D) (l : List CO) (K : Fr → List AObj → List Nat → Prop) (acc : List Nat) (fr : Fr) (dst : Option Nat) (s : List AObj) : Prop :=
  ∃ r, AFn P f ds r ∧ wpC P l K (0 :: acc) (putF fr dst (.d r)) s
theorem CallK.meet {P : Program} {f : FuncId} {ds : List D} {l : List CO} {K : Fr → List AObj → List Nat → Prop} {acc : List Nat} {fr : Fr} {dst : Option Nat} {s : List AObj} {r : D} (h : AFn P f ds r) (h2 : wpC P l K (0 :: acc) (putF fr dst (.d r)) s) : CallK P f ds l K acc fr dst s := ⟨r, h, h2⟩

theorem wpC_nil (P : Program) (K : Fr → List AObj → List Nat → Prop) (acc : List Nat) (fr : Fr) (s : List AObj) : wpC P [] K acc fr s = K fr s acc.reverse := propext Iff.rfl
theorem wpC_cons (P : Program) (o : CO) (l : List CO) (K : Fr → List AObj → List Nat → Prop) (acc : List Nat) (fr : Fr) (s : List AObj) : wpC P (o :: l) K acc fr s = match gdC fr o.g with
    | none => False
    | some b => Both b (wpC P l K (0 :: acc) (putF fr o.dst undefA) s) (match o.ci with
      | .call f xs => match evs fr xs with
        | some ds => CallK P f ds l K acc fr o.dst s
        | none => False
      | ci => match ci.sem fr s with
        | some (d, s') => wpC P l K (ci.touch fr :: acc) (putF fr o.dst d) s'
        | none => False) := propext Iff.rfl
end Go.Ab

namespace Go.Ab
open Go Go.RowKit

theorem gdC_gd {P : Program} {mus : List Nat} {ops : Array Oper} {o : Oper} {c : CO} (h : compO P mus ops o = some c) (fr : Fr) : gdC fr c.g = gd ops fr o := by
  unfold compO at h
  split at h
  · obtain rfl := Option.some.inj h
    unfold gd gdC
    cases hg : o.guard with
    | none => rfl
    | some jw =>
      obtain ⟨j, want⟩ := jw
      dsimp only
      cases hd : (ops[j]?).bind (·.dst) with
      | none => rfl
      | some t => rfl
  · cases h

theorem compO_inv {P : Program} {mus : List Nat} {ops : Array Oper} {o : Oper} {c : CO} (h : compO P mus ops o = some c) : compOp P mus o = some c.ci ∧ c.dst = o.dst := by
  unfold compO at h
  split at h
  · rename_i ci hc; obtain rfl := Option.some.inj h; exact ⟨hc, rfl⟩
  · cases h

theorem compOp_call {P : Program} {mus : List Nat} {o : Oper} {f : FuncId} {xs : List X} (h : compOp P mus o = some (.call f xs)) : ∃ ps ts, o.op = .call { callee := .value (.func f), args := ps, argTypes := ts } ∧ cXs P ts.toList ps.toList = some xs := by
  unfold compOp at h
  split at h
  all_goals first
    | (rename_i c ho
       obtain ⟨callee, args, tys⟩ := c
       unfold compCall at h
       dsimp only at h
       split at h
       · unfold compLen at h
         (repeat' split at h) <;> first | (cases h; done) | (injection h with h; cases h)
       · unfold compApp at h
         (repeat' split at h) <;> first | (cases h; done) | (injection h with h; cases h)
       · rename_i g
         obtain ⟨y, hy, he⟩ := Option.map_eq_some_iff.1 h
         injection he with e1 e2
         subst e1; subst e2
         exact ⟨args, tys, ho, hy⟩
       · cases h)
    | (exfalso; obtain ⟨y, hy, he⟩ := Option.map_eq_some_iff.1 h; cases he; done)
    | (exfalso; unfold compBuild at h; (repeat' split at h) <;> first | (cases h; done) | (obtain ⟨qs, _, he⟩ := Option.map_eq_some_iff.1 h; cases he; done))
    | (exfalso; unfold compBsf compBsl at h; (repeat' split at h) <;> first | (cases h; done) | (obtain ⟨qs, _, he⟩ := Option.map_eq_some_iff.1 h; cases he; done))
    | (exfalso; unfold compMks at h; (repeat' split at h) <;> first | (cases h; done) | (injection h with h; cases h; done))
    | (exfalso; (repeat' split at h) <;> first | (cases h; done) | (obtain ⟨qs, _, he⟩ := Option.map_eq_some_iff.1 h; cases he; done))
    | (exfalso; (repeat' split at h) <;> first | (cases h; done) | (injection h with h; cases h))

theorem wpC_ok {P : Program} {mus : List Nat} {ops : Array Oper} : ∀ {l : List Oper} {cs : List CO}, compL P mus ops l = some cs → ∀ {fr : Fr} {s : List AObj} {K : Fr → List AObj → List Nat → Prop} {acc : List Nat}, wpC P cs K acc fr s →
    ∃ fl fr' s', AOps P ops l fr s fl fr' s' ∧ fl.all (· ≤ 3) = true ∧ K fr' s' (acc.reverse ++ fl)
  | [], cs, h, fr, s, K, acc, hw => by
    simp [compL] at h; subst h
    exact ⟨[], fr, s, .nil fr s, rfl, by simpa [wpC] using hw⟩
  | o :: l, cs, h, fr, s, K, acc, hw => by
    unfold compL at h
    split at h
    · rename_i c cs' h1 h2
      obtain rfl := Option.some.inj h
      obtain ⟨hci, hdst⟩ := compO_inv h1
      unfold wpC at hw
      rw [gdC_gd h1] at hw
      cases hg : gd ops fr o with
      | none => rw [hg] at hw; exact hw.elim
      | some b =>
        rw [hg] at hw
        obtain ⟨w1, w2⟩ := hw
        cases b with
        | false =>
          obtain ⟨fl, fr', s', ha, hf, hk⟩ := wpC_ok h2 (w1 rfl)
          rw [hdst] at ha
          exact ⟨0 :: fl, fr', s', .skip o l fr s fl fr' s' hg ha, by simpa using hf, by simpa using hk⟩
        | true =>
          have w3 := w2 rfl
          split at w3
          · rename_i f xs hcall
            rw [hcall] at hci
            obtain ⟨ps, ts, ho, hx⟩ := compOp_call hci
            split at w3
            · rename_i ds hds
              obtain ⟨r, hr, w4⟩ := w3
              obtain ⟨fl, fr', s', ha, hf, hk⟩ := wpC_ok h2 w4
              rw [hdst] at ha
              exact ⟨0 :: fl, fr', s', .free o l fr s _ fl fr' s' hg (fun s => ok_call ho hx hds hr) ha, by simpa using hf, by simpa using hk⟩
            · exact w3.elim
          · split at w3
            · rename_i d s1 hsem
              obtain ⟨fl, fr', s', ha, hf, hk⟩ := wpC_ok h2 w3
              rw [hdst] at ha
              have ht : c.ci.touch fr = 0 ∨ c.ci.touch fr = 1 ∨ c.ci.touch fr = 2 ∨ c.ci.touch fr = 3 := by
                generalize c.ci = ci
                cases ci <;> simp only [CI.touch] <;> first | (split <;> simp; done) | simp
              rcases ht with ht | ht | ht | ht
              · have := sem_read hsem (by omega)
                subst this
                exact ⟨0 :: fl, fr', s', .free o l fr _ d fl fr' s' hg (fun s2 => compOp_ok hci (sem_free hsem ht s2)) ha, by simpa using hf, by rw [ht] at hk; simpa using hk⟩
              · have := sem_read hsem (by omega)
                subst this
                exact ⟨1 :: fl, fr', s', .reads o l fr _ d fl fr' s' hg (op_reads hci hsem ht) ha, by simpa using hf, by rw [ht] at hk; simpa using hk⟩
              · exact ⟨2 :: fl, fr', s', .eff o l fr s d s1 fl fr' s' hg (compOp_ok hci hsem) ha, by simpa using hf, by rw [ht] at hk; simpa using hk⟩
              · obtain ⟨x, hx⟩ := sem_make hsem ht
                subst hx
                exact ⟨3 :: fl, fr', s', .make o l fr s d x fl fr' s' hg (compOp_ok hci hsem) ha, by simpa using hf, by rw [ht] at hk; simpa using hk⟩
            · exact w3.elim
    · cases h

/-! ### The order check, in parts -/

/-- Do two that touch own blocks wait for one another? -/
def ordF (bf : List Nat) (fl : List Nat) : Bool :=
  (List.range fl.length).all fun j => fl.getD j 0 == 0 || (List.range j).all fun i => !conf (fl.getD i 0) (fl.getD j 0) || (bf.getD j 0).testBit i

theorem ordOk_parts {ops : Array Oper} {fl : List Nat} (h0 : ordB ops [] = true) (hlen : fl.length = ops.size) (h : ordF (Region.before ops).toList fl = true) : OrdOk ops (anc (Region.before ops)) (fun i => fl.getD i 0) := by
  have h1 := ordOk_of h0
  refine ⟨h1.back, h1.up, h1.names, fun i j hij hj hf => ?_⟩
  unfold ordF at h
  simp only [List.all_eq_true, List.mem_range] at h
  have h2 := h j (by omega)
  simp only [Bool.or_eq_true, List.all_eq_true, List.mem_range, beq_iff_eq] at h2
  rcases h2 with h2 | h2
  · exfalso
    have hf' : conf (fl.getD i 0) (fl.getD j 0) = true := hf
    rw [h2] at hf'
    simp [conf] at hf'
  · rcases h2 i hij with h3 | h3
    · have hf' : conf (fl.getD i 0) (fl.getD j 0) = true := hf
      rw [hf'] at h3; cases h3
    · unfold anc
      have : (Region.before ops).toList.getD j 0 = (Region.before ops).getD j 0 := by simp [List.getD_eq_getElem?_getD, Array.getD_eq_getD_getElem?]
      rw [← this]; exact h3

/-- What is to hold behind a region. -/
def OpsQ (dr : Bool) (bf : List Nat) (Q : Exit → Fr → List AObj → Prop) (fr : Fr) (s : List AObj) (fl : List Nat) : Prop := (dr = true → ordF bf fl = true) ∧ Q .normal fr s

theorem AW.region' {P : Program} {B N : Nat} {Q : Exit → Fr → List AObj → Prop} {fr : Fr} {s : List AObj} {id : Nat} {ops : Array Oper} {dr : Bool} {mus : List Nat} {cs : List CO} (hN : ops.all (fun o => match o.dst with | some d => decide (d < N) | none => true) = true)
    (hc : compL P mus ops ops.toList = some cs) (hd : dr = true → P.follows .mixedOrders = true ∧ ordB ops [] = true)
    (h : wpC P cs (OpsQ dr (Region.before ops).toList Q) [] fr s) : AW P B N (.region id ops dr) Q fr s := fun k a w h1 h2 h3 h4 => by
  obtain ⟨fl, fr', s', ha, hf, hk⟩ := wpC_ok hc h
  rw [List.reverse_nil, List.nil_append] at hk
  obtain ⟨hor, hQ⟩ := hk
  have hN' : ∀ o ∈ ops, ∀ d, o.dst = some d → d < N := fun o ho d hdst => by
    have := Array.all_eq_true_iff_forall_mem.1 hN o ho
    simpa [hdst] using this
  cases dr with
  | false => exact wp_region_list (wpList_aops ha hQ (fun o ho => hN' o (by simpa using ho)) k a w h1 h2 h3 h4 (Ext.refl B k w))
  | true =>
    obtain ⟨hm, ho⟩ := hd rfl
    refine wp_region_any hm ?_
    obtain ⟨frs, ss, ds, wt, t1, t2, t3, t4, t5, t6, t7⟩ := txt_of ha
    have hget : ∀ (i : Nat) (o : Oper), ops[i]? = some o → ops.toList[i]? = some o := fun i o ho => by simpa using ho
    have hT : Txt P ops frs ss ds wt (fun i => fl.getD i 0) := by
      refine ⟨fun i o ho => (t6 i o (hget i o ho)).1, fun i o ho => (t6 i o (hget i o ho)).2.1, fun i o ho => (t6 i o (hget i o ho)).2.2.1, fun i o ho => (t6 i o (hget i o ho)).2.2.2.1, fun i o ho => (t6 i o (hget i o ho)).2.2.2.2.1, fun i o ho => (t6 i o (hget i o ho)).2.2.2.2.2.2.1, fun i hi hh => (t6 i ops[i] (hget i _ (Array.getElem?_eq_getElem hi))).2.2.2.2.2.2.2 hh, fun i hi hh => ?_, t7⟩
      exact (t6 i ops[i] (hget i _ (Array.getElem?_eq_getElem hi))).2.2.2.2.2.1 hh
    have hle : ∀ i, i < ops.size → fl.getD i 0 ≤ 3 := fun i _ => by
      rw [List.getD_eq_getElem?_getD]
      cases hx : fl[i]? with
      | none => simp
      | some x => simpa using List.all_eq_true.1 hf x (List.mem_of_getElem? hx)
    subst t1; subst t2; subst t3; subst t4
    have hz : (Array.replicate ops.size false).size = ops.size := by simp
    have hno : ∀ i, (Array.replicate ops.size false).getD i false = false := fun i => by
      rw [Array.getD_eq_getD_getElem?, Array.getElem?_replicate]; split <;> rfl
    refine region_any hT (ordOk_parts ho (by simpa using t5) (hor rfl)) hle hN' (Q := Q) (by simpa using hQ) ops.size (Array.replicate ops.size false) (List.range ops.size) k a _ (by simp) (fun i hi _ => by simpa using hi) ?_
    refine ⟨hz, fun j hj => (by rw [hno] at hj; cases hj), h1, h2, Ext.drew B k w, fun t x hx => ?_, 0, by omega, fun i hi => by omega, fun i _ _ _ => hno i, h4.drew⟩
    refine (FR.mono (Ext.drew B k w) h3) t x ?_
    rw [← hx, valS_drop (ops := ops) ds (frs 0) _ t 0 ops.size (by omega) fun i _ _ _ => hno i]
    rfl

/-! ### Code -/

inductive CC where
  | skip
  | ops (dr : Bool) (bf : List Nat) (l : List CO)
  | seq (a b : CC)
  | cond (c : X) (a b : CC)
  | block (id : Nat) (c : CC)
  | loop (c : CC)
  | exit (id : Nat)
  | ret

def comp (P : Program) (mus : List Nat) (N : Nat) : Code → Option CC
  | .skip => some .skip
  | .label _ => some .skip
  | .region _ ops dr => if ops.all (fun o => match o.dst with | some d => decide (d < N) | none => true) && (!dr || (P.follows .mixedOrders && ordB ops [])) then
      (compL P mus ops ops.toList).map fun l => .ops dr (if dr then (Region.before ops).toList else []) l else none
  | .seq a b => match comp P mus N a, comp P mus N b with
    | some a, some b => some (.seq a b)
    | _, _ => none
  | .cond c a b => match cX P 0 c, comp P mus N a, comp P mus N b with
    | some c, some a, some b => some (.cond c a b)
    | _, _, _ => none
  | .block id c => (comp P mus N c).map (.block id)
  | .loop c => (comp P mus N c).map .loop
  | .exit id => some (.exit id)
  | .ret => some .ret
  | _ => none

/-- Less is said of the slots. -/
def Sub (fr' fr : Fr) : Prop := ∀ t x, look fr' t = some x → look fr t = some x
theorem Sub.refl (fr : Fr) : Sub fr fr := fun _ _ h => h
theorem Sub.nil (fr : Fr) : Sub [] fr := fun _ _ h => by cases h
theorem Sub.cons {fr' fr : Fr} {t : Nat} {x : AV} (h : look fr t = some x) (hs : Sub fr' fr) : Sub ((t, x) :: fr') fr := fun u y hy => by
  unfold look at hy
  split at hy
  · rename_i e; subst e; obtain rfl := Option.some.inj hy; exact h
  · exact hs u y hy

/-- A loop: an invariant with a measure, told of some slots. -/
def LoopP (body : (Exit → Fr → List AObj → Prop) → Fr → List AObj → Prop) (Q : Exit → Fr → List AObj → Prop) (fr : Fr) (s : List AObj) : Prop :=
  ∃ (Inv : Nat → Fr → List AObj → Prop), (∃ m fr0, Sub fr0 fr ∧ Inv m fr0 s) ∧ ∀ m fr s, Inv m fr s → body (SeqQ (fun fr' s' => ∃ m' fr'', m' < m ∧ Sub fr'' fr' ∧ Inv m' fr'' s') Q) fr s

def wpK (P : Program) : CC → (Exit → Fr → List AObj → Prop) → Fr → List AObj → Prop
  | .skip, Q, fr, s => Q .normal fr s
  | .ops dr bf l, Q, fr, s => wpC P l (OpsQ dr bf Q) [] fr s
  | .seq a b, Q, fr, s => wpK P a (SeqQ (wpK P b Q) Q) fr s
  | .cond c a b, Q, fr, s => match scOf (c.ev fr) with
    | some (.bool v) => Both v (wpK P b Q fr s) (wpK P a Q fr s)
    | _ => False
  | .block id c, Q, fr, s => wpK P c (BlockQ id Q) fr s
  | .loop c, Q, fr, s => LoopP (wpK P c) Q fr s
  | .exit id, Q, fr, s => Q (.exit id) fr s
  | .ret, Q, fr, s => Q .ret fr s

theorem wpC_mono {P : Program} : ∀ {l : List CO} {K K' : Fr → List AObj → List Nat → Prop} (_ : ∀ fr s fl, K fr s fl → K' fr s fl) {acc : List Nat} {fr : Fr} {s : List AObj}, wpC P l K acc fr s → wpC P l K' acc fr s
  | [], K, K', hk, acc, fr, s, h => hk _ _ _ h
  | o :: l, K, K', hk, acc, fr, s, h => by
    unfold wpC at h ⊢
    split at h
    · exact h
    · rename_i b hb
      refine ⟨fun e => wpC_mono hk (h.1 e), fun e => ?_⟩
      have h2 := h.2 e
      split at h2
      · split at h2
        · obtain ⟨r, h3, h4⟩ := h2; exact ⟨r, h3, wpC_mono hk h4⟩
        · exact h2
      · split at h2
        · rename_i d s' hd; exact wpC_mono hk h2
        · exact h2

theorem wpK_mono {P : Program} : ∀ {c : CC} {Q Q' : Exit → Fr → List AObj → Prop} {fr : Fr} {s : List AObj}, wpK P c Q fr s → (∀ e fr s, Q e fr s → Q' e fr s) → wpK P c Q' fr s
  | .skip, Q, Q', fr, s, h, hq => hq _ _ _ h
  | .ops dr bf l, Q, Q', fr, s, h, hq => wpC_mono (fun _ _ _ h => ⟨h.1, hq _ _ _ h.2⟩) h
  | .seq a b, Q, Q', fr, s, h, hq => wpK_mono (c := a) h fun e fr s h2 => by
      cases e with
      | normal => exact wpK_mono (c := b) h2 hq
      | _ => exact hq _ _ _ h2
  | .cond c a b, Q, Q', fr, s, h, hq => by
    unfold wpK at h ⊢
    split at h
    · exact ⟨fun e => wpK_mono (h.1 e) hq, fun e => wpK_mono (h.2 e) hq⟩
    · exact h
  | .block id c, Q, Q', fr, s, h, hq => wpK_mono (c := c) h fun e fr s h2 => by
      cases e with
      | exit id' =>
        have h3 : if id' = id then Q .normal fr s else Q (.exit id') fr s := h2
        show if id' = id then Q' .normal fr s else Q' (.exit id') fr s
        split at h3
        · rename_i e; rw [if_pos e]; exact hq _ _ _ h3
        · rename_i e; rw [if_neg e]; exact hq _ _ _ h3
      | _ => exact hq _ _ _ h2
  | .loop c, Q, Q', fr, s, h, hq => by
    obtain ⟨Inv, h1, h2⟩ := h
    refine ⟨Inv, h1, fun m fr s hi => wpK_mono (h2 m fr s hi) fun e fr s h3 => ?_⟩
    cases e with
    | normal => exact h3
    | _ => exact hq _ _ _ h3
  | .exit id, Q, Q', fr, s, h, hq => hq _ _ _ h
  | .ret, Q, Q', fr, s, h, hq => hq _ _ _ h

/-- A loop that is still to be walked. -/
def LoopK (P : Program) (c : CC) (Q : Exit → Fr → List AObj → Prop) (fr : Fr) (s : List AObj) : Prop := LoopP (wpK P c) Q fr s

section
variable (P : Program) (Q : Exit → Fr → List AObj → Prop) (fr : Fr) (s : List AObj)
theorem wpK_skip : wpK P .skip Q fr s = Q .normal fr s := propext Iff.rfl
theorem wpK_ops (dr : Bool) (bf : List Nat) (l : List CO) : wpK P (.ops dr bf l) Q fr s = wpC P l (OpsQ dr bf Q) [] fr s := propext Iff.rfl
theorem wpK_seq (a b : CC) : wpK P (.seq a b) Q fr s = wpK P a (SeqQ (wpK P b Q) Q) fr s := propext Iff.rfl
theorem wpK_cond (c : X) (a b : CC) : wpK P (.cond c a b) Q fr s = match scOf (c.ev fr) with
    | some (.bool v) => Both v (wpK P b Q fr s) (wpK P a Q fr s)
    | _ => False := propext Iff.rfl
theorem wpK_block (id : Nat) (c : CC) : wpK P (.block id c) Q fr s = wpK P c (BlockQ id Q) fr s := propext Iff.rfl
theorem wpK_loop (c : CC) : wpK P (.loop c) Q fr s = LoopK P c Q fr s := propext Iff.rfl
theorem wpK_exit (id : Nat) : wpK P (.exit id) Q fr s = Q (.exit id) fr s := propext Iff.rfl
theorem wpK_ret : wpK P .ret Q fr s = Q .ret fr s := propext Iff.rfl
end

/-- The rule of a loop. -/
theorem LoopK.intro {P : Program} {c : CC} {Q : Exit → Fr → List AObj → Prop} {fr : Fr} {s : List AObj} (Inv : Nat → Fr → List AObj → Prop) (m : Nat) (fr0 : Fr) (hs : Sub fr0 fr) (h0 : Inv m fr0 s)
    (h : ∀ m fr s, Inv m fr s → wpK P c (SeqQ (fun fr' s' => ∃ m' fr'', m' < m ∧ Sub fr'' fr' ∧ Inv m' fr'' s') Q) fr s) : LoopK P c Q fr s := ⟨Inv, ⟨m, fr0, hs, h0⟩, h⟩

/-- Sub, slot by slot. -/
def SubB : Fr → Fr → Prop
  | [], _ => True
  | (t, x) :: r, fr => look fr t = some x ∧ SubB r fr
theorem SubB.sub : ∀ {r fr : Fr}, SubB r fr → Sub r fr
  | [], fr, _ => Sub.nil fr
  | (_, _) :: _, _, h => Sub.cons h.1 (SubB.sub h.2)

/-- A loop whose state is told by a datum, with a measure. -/
theorem LoopK.at {P : Program} {c : CC} {Q : Exit → Fr → List AObj → Prop} {fr : Fr} {s : List AObj} {β : Type} (F : β → Fr) (S : β → List AObj) (I : Nat → β → Prop) (m : Nat) (b : β) (hs : SubB (F b) fr) (hS : s = S b) (h0 : I m b)
    (h : ∀ m b, I m b → wpK P c (SeqQ (fun fr' s' => ∃ m' b', m' < m ∧ SubB (F b') fr' ∧ s' = S b' ∧ I m' b') Q) (F b) (S b)) : LoopK P c Q fr s := by
  refine LoopK.intro (fun m fr s => ∃ b, fr = F b ∧ s = S b ∧ I m b) m (F b) hs.sub ⟨b, rfl, hS, h0⟩ ?_
  rintro m _ _ ⟨b, rfl, rfl, hi⟩
  refine wpK_mono (h m b hi) fun e fr' s' hq => ?_
  cases e with
  | normal => obtain ⟨m', b', h1, h2, h3, h4⟩ := hq; exact ⟨m', F b', h1, h2.sub, b', rfl, h3, h4⟩
  | _ => exact hq

/-- A loop that counts up to n. -/
theorem LoopK.count {P : Program} {c : CC} {Q : Exit → Fr → List AObj → Prop} {fr : Fr} {s : List AObj} (F : Nat → Fr) (S : Nat → List AObj) (I : Nat → Prop) (n : Nat) (hs : SubB (F 0) fr) (hS : s = S 0) (h0 : I 0)
    (h : ∀ k, k ≤ n → I k → wpK P c (SeqQ (fun fr' s' => k < n ∧ SubB (F (k + 1)) fr' ∧ s' = S (k + 1) ∧ I (k + 1)) Q) (F k) (S k)) : LoopK P c Q fr s := by
  refine LoopK.at F S (fun m k => k ≤ n ∧ m = n - k ∧ I k) n 0 hs hS ⟨Nat.zero_le _, by omega, h0⟩ ?_
  rintro m k ⟨hk, hm, hi⟩
  refine wpK_mono (h k hk hi) fun e fr' s' hq => ?_
  cases e with
  | normal => obtain ⟨h1, h2, h3, h4⟩ := hq; exact ⟨n - (k + 1), k + 1, by omega, h2, h3, by omega, rfl, h4⟩
  | _ => exact hq

theorem wpK_ok {P : Program} {mus : List Nat} {B N : Nat} : ∀ {c : Code} {cc : CC}, comp P mus N c = some cc → ∀ {Q : Exit → Fr → List AObj → Prop} {fr : Fr} {s : List AObj}, wpK P cc Q fr s → AW P B N c Q fr s
  | .skip, cc, h, Q, fr, s, hw => by simp [comp] at h; subst h; exact AW.skip hw
  | .label l, cc, h, Q, fr, s, hw => by simp [comp] at h; subst h; exact AW.label hw
  | .region id ops dr, cc, h, Q, fr, s, hw => by
    unfold comp at h
    split at h
    · rename_i hc
      obtain ⟨l, hl, rfl⟩ := Option.map_eq_some_iff.1 h
      simp only [Bool.and_eq_true, Bool.or_eq_true, Bool.not_eq_true'] at hc
      refine AW.region' (by rw [Array.all_eq_true_iff_forall_mem]; rw [Array.all_eq_true_iff_forall_mem] at hc; exact hc.1) hl (fun hd => ?_) ?_
      · rcases hc.2 with h1 | h1
        · rw [hd] at h1; cases h1
        · exact h1
      · cases dr with
        | false =>
          have hw' : wpC P l (OpsQ false [] Q) [] fr s := by simpa [wpK] using hw
          have : OpsQ false [] Q = OpsQ false (Region.before ops).toList Q := by funext fr s fl; simp [OpsQ]
          rw [← this]; exact hw'
        | true => exact (by simpa [wpK] using hw)
    · cases h
  | .seq a b, cc, h, Q, fr, s, hw => by
    unfold comp at h
    split at h
    · rename_i x y hx hy
      obtain rfl := Option.some.inj h
      refine AW.seq (AW.mono (wpK_ok hx (show wpK P x _ fr s from hw)) fun e fr' s' hq => ?_)
      cases e with
      | normal => exact wpK_ok hy hq
      | _ => exact hq
    · cases h
  | .cond c a b, cc, h, Q, fr, s, hw => by
    unfold comp at h
    split at h
    · rename_i x y z hx hy hz
      obtain rfl := Option.some.inj h
      unfold wpK at hw
      split at hw
      · rename_i v hv
        have hgo : AW P B N (if v then a else b) Q fr s := by
          cases v with
          | true => exact wpK_ok hy (hw.2 rfl)
          | false => exact wpK_ok hz (hw.1 rfl)
        intro k ac w h1 h2 h3 h4
        refine wp_cond (t := v) ?_ (hgo k ac w h1 h2 h3 h4)
        cases hc : x.ev fr with
        | none => rw [hc] at hv; cases hv
        | some d => exact scOf_ok hc hv (cX_ok hx hc fun u y e hl => h3 u y hl)
      · exact hw.elim
    · cases h
  | .block id c, cc, h, Q, fr, s, hw => by
    unfold comp at h
    obtain ⟨x, hx, rfl⟩ := Option.map_eq_some_iff.1 h
    exact AW.block (wpK_ok hx hw)
  | .loop c, cc, h, Q, fr, s, hw => by
    unfold comp at h
    obtain ⟨x, hx, rfl⟩ := Option.map_eq_some_iff.1 h
    obtain ⟨Inv, ⟨m, fr0, hs, h0⟩, hround⟩ := hw
    refine AW.frame (fr' := fr0) ?_ hs
    refine AW.loop (fun m fr s => ∃ fr', Sub fr' fr ∧ Inv m fr' s) (m := m) ⟨fr0, Sub.refl _, h0⟩ ?_
    rintro m fr s ⟨fr', hsub, hi⟩
    refine AW.frame (fr' := fr') ?_ hsub
    refine AW.mono (wpK_ok hx (hround m fr' s hi)) fun e fr1 s1 hq => ?_
    cases e with
    | normal => obtain ⟨m', fr2, h1, h2, h3⟩ := hq; exact ⟨m', h1, fr2, h2, h3⟩
    | _ => exact hq
  | .exit id, cc, h, Q, fr, s, hw => by simp [comp] at h; subst h; exact AW.exit hw
  | .ret, cc, h, Q, fr, s, hw => by simp [comp] at h; subst h; exact AW.ret hw
  | .scope _, cc, h, _, _, _, _ => by simp [comp] at h
  | .goto _, cc, h, _, _, _, _ => by simp [comp] at h
  | .refuse _, cc, h, _, _, _, _ => by simp [comp] at h
  | .rangeFunc _ _ _ _, cc, h, _, _, _, _ => by simp [comp] at h

/-! ### Functions -/

def cR (P : Program) : ResultVar → Option CR
  | .tmp t => some (.tmp t)
  | .cell t ty => (szOf P ty).map (.cell t)
def cRs (P : Program) : List ResultVar → Option (List CR)
  | [] => some []
  | r :: l => match cR P r, cRs P l with
    | some c, some cs => some (c :: cs)
    | _, _ => none

structure CF where
  n : Nat
  body : CC
  res : List CR

def compFn (P : Program) (mus : List Nat) (f : FuncId) : Option CF :=
  match P.funcs[f]? with
  | some fn => match fn.body with
    | some c => if fn.name == "runtime.NumGoroutine" then none else match comp P mus fn.ntmps c, cRs P fn.results.toList with
      | some cc, some rs => some ⟨fn.ntmps, cc, rs⟩
      | _, _ => none
    | none => none
  | none => none

/-- What is to hold at a function's end. -/
def RetQ (rs : List CR) (r : D) : Exit → Fr → List AObj → Prop
  | .normal, fr, s => resD fr s rs = some r
  | .ret, fr, s => resD fr s rs = some r
  | _, _, _ => False

theorem mapO_get {α β : Type} {g : α → Option β} : ∀ {l : List α} {l' : List β}, mapO g l = some l' → l'.length = l.length ∧ ∀ (i : Nat) (x : α), l[i]? = some x → ∃ y, l'[i]? = some y ∧ g x = some y
  | [], l', h => by simp [mapO] at h; subst h; simp
  | x :: l, l', h => by
    unfold mapO at h
    split at h
    · rename_i y l2 h1 h2
      obtain rfl := Option.some.inj h
      obtain ⟨k1, k2⟩ := mapO_get h2
      refine ⟨by simp [k1], fun i z hz => ?_⟩
      cases i with
      | zero => simp at hz; subst hz; exact ⟨y, rfl, h1⟩
      | succ i => exact k2 i z (by simpa using hz)
    · cases h

/-- At a call's end all that it owns is never written again. -/
theorem deepD_ok {B : Nat} {k : Cfg} {s : List AObj} {w : World} (hs : St B k s w) {I' : Nat → Nat} (hk : KeepI k.I w I' w) (hB : ∀ b o u, B ≤ b → w.cell? ⟨b, o, none⟩ = some u → o < I' b) : ∀ (f : Nat) (x : AV) (d : D) (v : Value), deepD s f x = some d → RA k w v x → RD I' w v d
  | 0, x, d, v, h, _ => by simp [deepD] at h
  | f + 1, x, d, v, h, hv => by
    have cells : ∀ (us : List Value) (cs : List AV) (es : List D), RAs k w us cs → mapO (deepD s f) cs = some es → RDs I' w us es := fun us cs es h1 h2 => by
      obtain ⟨k1, k2⟩ := mapO_get h2
      refine ⟨h1.1.trans k1.symm, h1.2.1, fun i u e hu he => ?_⟩
      obtain ⟨hi, _⟩ := List.getElem?_eq_some_iff.1 he
      have hc : cs[i]? = some cs[i] := List.getElem?_eq_getElem (by omega)
      obtain ⟨e', h3, h4⟩ := k2 i _ hc
      rw [he] at h3; cases h3
      exact deepD_ok hs hk hB f _ _ u h4 (h1.2.2 i u _ hu hc).toA
    have leaf : ∀ y, x = y → x.toL = some d → RL k w v x → RD I' w v d := fun y _ h1 h2 => (h2.toL h1).mono hk
    cases x with
    | agg cs =>
      obtain ⟨us, rfl, h2⟩ := hv
      simp only [deepD] at h
      split at h
      · rename_i es hes
        obtain rfl := Option.some.inj h
        have h3 := cells us cs es h2 hes
        exact .agg us es h3.1 h3.2.1 h3.2.2
      · cases h
    | vec id n sz =>
      simp only [deepD] at h
      split at h
      · rename_i e sz2 ds hid
        split at h
        · rename_i hcc
          obtain ⟨rfl, c0, c1⟩ := hcc
          split at h
          · rename_i es hes
            obtain rfl := Option.some.inj h
            obtain ⟨_, u, n', hku, hle, heq⟩ := hv
            obtain ⟨v2, n2, xs, g1, hown, hI, g4, hxs⟩ := hs.vec id e sz2 ds hid
            rw [hku] at g1; cases g1
            have hnn : n = n' := by
              rw [c1] at g4
              exact Nat.eq_of_mul_eq_mul_right c0 g4
            subst hnn
            rw [heq rfl]
            have h3 := cells xs ds es hxs hes
            have hl := (mapO_get hes).1
            obtain ⟨hf1, hf2⟩ := chunk_flat sz2 n es (by omega)
            rcases hown.2 with ⟨hv', h0⟩ | ⟨g, cap, cur, hv', hbg, hg, hnc, hcm, hcs, htake⟩
            · subst hv'; subst h0
              exact RD.sl_mk (us := []) rfl (by simp [chunk]) (by omega) (by omega) ⟨by simp [chunk], by simp, by simp⟩ (by simp [chunk])
            · rw [hv']
              refine RD.sl_mk (chunk_len sz2 n es) hf2 hnc (by unfold maxLen at hcm; omega) (by rw [hf1]; exact h3) fun _ => ⟨g, 0, rfl, fun i x hx => ?_⟩
              have := hown.cells (g := g) (by rw [hv']; rfl) i x hx
              rw [Addr.add_mid] at this
              exact ⟨hB _ _ _ hbg this, this⟩
          · cases h
        · cases h
      · cases h
    | d y => exact leaf _ rfl (by simpa [deepD] using h) hv
    | tsl id sz rows => exact leaf _ rfl (by simpa [deepD] using h) hv
    | nil sz => exact leaf _ rfl (by simpa [deepD] using h) hv
    | ptr id off => exact leaf _ rfl (by simpa [deepD] using h) hv
    | vptr id n off => exact leaf _ rfl (by simpa [deepD] using h) hv

theorem resOne_ok {P : Program} {rv : ResultVar} {c : CR} (h : cR P rv = some c) {fr : Fr} {s : List AObj} {d : D} (hd : resOne fr s c = some d) {B : Nat} {k : Cfg} {a : Act} {w : World} (hf : FR k w a fr) (hs : St B k s w) {I' : Nat → Nat} (hk : KeepI k.I w I' w) (hB : ∀ b o u, B ≤ b → w.cell? ⟨b, o, none⟩ = some u → o < I' b) :
    ∃ v, (match rv with
      | .tmp t => pure (a.tmps.getD t undef)
      | .cell a' t => do loadVar t (← asAddr (a.tmps.getD a' undef)) : Sem Value).run P w = .ok v w ∧ RD I' w v d := by
  cases rv with
  | tmp t =>
    simp [cR] at h; subst h
    simp only [resOne] at hd
    split at hd
    · rename_i x hx; exact ⟨_, rfl, deepD_ok hs hk hB 5 x _ _ hd (hf t x hx)⟩
    · cases hd
  | cell t ty =>
    unfold cR at h
    obtain ⟨n, hn, rfl⟩ := Option.map_eq_some_iff.1 h
    have hload : ∀ (p : Addr) (v : Value), a.tmps.getD t undef = .pointer (some p) → (Instr.loadAt ty (.pointer (some p))).run P w = .ok v w → (do loadVar ty (← asAddr (a.tmps.getD t undef)) : Sem Value).run P w = .ok v w := fun p v he hl => by
      rw [he]
      simp only [Instr.loadAt, Instr.sureAddr, Sem.run_bind, Sem.run_pure, Result.andThen_ok] at hl
      simp only [asAddr, Sem.run_bind, Sem.run_pure, Result.andThen_ok, hl]
    cases n with
    | none =>
      simp only [resOne] at hd
      split at hd
      · rename_i id off hx
        split at hd
        · rename_i cs hid
          split at hd
          · rename_i x hcx
            obtain ⟨b, hb, hv⟩ : RL k w _ (.ptr id off) := hf t _ hx
            obtain ⟨b', t', us, g1, g2, g3⟩ := hs.cells id cs hid
            rw [hb] at g1; simp at g1; subst g1
            obtain ⟨u, hu1, hu2, hu3⟩ := g3.get hcx
            exact ⟨u, hload _ _ hv (run_load1 (by rw [cells_at g2]; exact hu1) hn), deepD_ok hs hk hB 5 x _ _ hd hu3.toA⟩
          · cases hd
        · cases hd
      · cases hd
    | some m =>
      simp only [resOne] at hd
      split at hd
      · rename_i id off hx
        split at hd
        · rename_i cs hid
          split at hd
          · rename_i hm
            obtain ⟨b, hb, hv⟩ : RL k w _ (.ptr id off) := hf t _ hx
            obtain ⟨b', t', us, g1, g2, g3⟩ := hs.cells id cs hid
            rw [hb] at g1; simp at g1; subst g1
            have h5 := (g3.drop off).take m
            have hlen : ((us.drop off).take m).length = m := by rw [h5.1]; simp; omega
            refine ⟨.agg ((us.drop off).take m).toArray, hload _ _ hv (run_loadm (fun j v hj => ?_) (by rw [hlen]; exact hn)), deepD_ok hs hk hB 5 _ _ _ hd (show RA k w _ (.agg _) from ⟨_, rfl, h5⟩)⟩
            rw [List.getElem?_take] at hj
            split at hj
            · rw [List.getElem?_drop] at hj
              rw [cells_at g2]; exact hj
            · cases hj
          · cases hd
        · cases hd
      · cases hd

theorem resAll_ok {P : Program} {fr : Fr} {s : List AObj} {B : Nat} {k : Cfg} {a : Act} {w : World} (hf : FR k w a fr) (hs : St B k s w) {I' : Nat → Nat} (hk : KeepI k.I w I' w) (hB : ∀ b o u, B ≤ b → w.cell? ⟨b, o, none⟩ = some u → o < I' b) : ∀ {rvs : List ResultVar} {cs : List CR} {ds : List D}, cRs P rvs = some cs → resAll fr s cs = some ds →
    ∃ vs : List Value, (rvs.mapM fun rv => (match rv with
      | .tmp t => pure (a.tmps.getD t undef)
      | .cell a' t => do loadVar t (← asAddr (a.tmps.getD a' undef)) : Sem Value)).run P w = .ok vs w ∧ vs.length = ds.length ∧ ∀ (i : Nat) (v : Value) (d : D), vs[i]? = some v → ds[i]? = some d → RD I' w v d
  | [], cs, ds, h, hd => by
    simp [cRs] at h; subst h
    simp [resAll] at hd; subst hd
    exact ⟨[], rfl, rfl, by simp⟩
  | rv :: rvs, cs, ds, h, hd => by
    unfold cRs at h
    split at h
    · rename_i c cs' h1 h2
      obtain rfl := Option.some.inj h
      unfold resAll at hd
      split at hd
      · rename_i d ds' h3 h4
        obtain rfl := Option.some.inj hd
        obtain ⟨v, hv1, hv2⟩ := resOne_ok h1 h3 hf hs hk hB
        obtain ⟨vs, hvs1, hvs2, hvs3⟩ := resAll_ok hf hs hk hB h2 h4
        refine ⟨v :: vs, ?_, by simp [hvs2], fun i x y hx hy => ?_⟩
        · rw [List.mapM_cons]
          simp only [Sem.run_bind, hv1, Result.andThen_ok, hvs1, Sem.run_pure]
        · cases i with
          | zero => simp at hx hy; subst hx; subst hy; exact hv2
          | succ i => exact hvs3 i x y (by simpa using hx) (by simpa using hy)
      · cases hd
    · cases h

theorem results_ok {P : Program} {fn : Func} {rs : List CR} (hr : cRs P fn.results.toList = some rs) {fr : Fr} {s : List AObj} {r : D} (hd : resD fr s rs = some r) {B : Nat} {k : Cfg} {a : Act} {w : World} (hf : FR k w a fr) (hs : St B k s w) {I' : Nat → Nat} (hk : KeepI k.I w I' w) (hB : ∀ b o u, B ≤ b → w.cell? ⟨b, o, none⟩ = some u → o < I' b) :
    ∃ v, (results fn a.tmps).run P w = .ok v w ∧ RD I' w v r := by
  unfold resD at hd
  have go : ∀ ds, resAll fr s rs = some ds → ∃ vs : List Value, (results fn a.tmps).run P w = .ok (if h : vs.toArray.size = 1 then vs.toArray[0] else .tuple vs.toArray) w ∧ vs.length = ds.length ∧ ∀ (i : Nat) (v : Value) (d : D), vs[i]? = some v → ds[i]? = some d → RD I' w v d := fun ds hds => by
    obtain ⟨vs, h1, h2, h3⟩ := resAll_ok hf hs hk hB hr hds
    refine ⟨vs, ?_, h2, h3⟩
    unfold results
    rw [← Array.toArray_toList (xs := fn.results), List.mapM_toArray]
    simp only [Sem.run_bind, Sem.run_map, Sem.run_pure]
    erw [h1]
    rfl
  split at hd
  · rename_i d hds
    obtain rfl := Option.some.inj hd
    obtain ⟨vs, h1, h2, h3⟩ := go _ hds
    cases vs with
    | nil => simp at h2
    | cons v vs =>
      cases vs with
      | nil => exact ⟨v, by simpa using h1, h3 0 v d rfl rfl⟩
      | cons _ _ => simp at h2
  · rename_i ds hne hds
    obtain rfl := Option.some.inj hd
    obtain ⟨vs, h1, h2, h3⟩ := go _ hds
    have hsz : ¬ vs.toArray.size = 1 := by
      intro e
      have : ds.length = 1 := by rw [← h2]; simpa using e
      cases ds with
      | nil => simp at this
      | cons d ds =>
        cases ds with
        | nil => exact hne d rfl
        | cons _ _ => simp at this
    rw [dif_neg hsz] at h1
    exact ⟨_, h1, .tup vs ds h2 h3⟩
  · cases hd

/-- A function does what its code as data says. -/
theorem AFn_of {P : Program} {mus : List Nat} {f : FuncId} {F : CF} (hc : compFn P mus f = some F) {args : List D} {r : D} (hargs : args.length ≤ F.n) (h : wpK P F.body (RetQ F.res r) (argsFr args) []) : AFn P f args r := by
  unfold compFn at hc
  split at hc
  · rename_i fn hfn
    split at hc
    · rename_i c hbody
      split at hc
      · cases hc
      · rename_i hname
        split at hc
        · rename_i cc rs h1 h2
          obtain rfl := Option.some.inj hc
          have hn1 : fn.name ≠ "runtime.NumGoroutine" := by simpa using hname
          have hargs' : args.length ≤ fn.ntmps := hargs
          refine ⟨fun args w => by simp [callFunc, hfn, hn1, hbody, mark], fun I w vs hl hvs => calls_of_wp hfn hbody ?_⟩
          have hst : St w.heap.size ⟨I, []⟩ [] w := ⟨Nat.le_refl _, rfl, by simp, by simp, by simp, by simp, by simp, by simp⟩
          have haw := wpK_ok (B := w.heap.size) h1 h ⟨I, []⟩ { tmps := vs.toArray ++ Array.replicate (fn.ntmps - vs.toArray.size) undef, defers := [] } w (by simp; omega) rfl (fun t x hx => ?_) hst
          · refine wp_mono haw fun e a' w' hp => ?_
            obtain ⟨fr', s', k', hq, ha, hd, he, hf, hs⟩ := hp
            have fin : resD fr' s' rs = some r → a'.defers = [] ∧ ∃ v, (results fn a'.tmps).run P w' = .ok v w' ∧ ∃ v', Ending.returned v = .returned v' ∧ RD (bigI I w.heap.size w') w' v' r ∧ Below w.heap.size w w' := fun hres => by
              have hkk : KeepI k'.I w' (bigI I w.heap.size w') w' := fun b q u hb hcell => ⟨by
                by_cases hlt : b < w.heap.size
                · rw [bigI_lt _ _ hlt]; have := he.low b hlt; rw [this] at hb; exact hb
                · unfold bigI; rw [if_neg hlt]; exact lt_cellsIn hcell, hcell⟩
              obtain ⟨v, hv1, hv2⟩ := results_ok h2 hres hf hs hkk fun b q u hb hcell => by
                unfold bigI; rw [if_neg (by omega)]; exact lt_cellsIn hcell
              exact ⟨hd, v, hv1, v, rfl, hv2, he.below⟩
            cases e with
            | normal => exact fin hq
            | ret => exact fin hq
            | _ => exact hq.elim
          · unfold argsFr at hx
            have := look_argsFr args 0 t
            simp only [Nat.zero_le, if_true, Nat.sub_zero] at this
            rw [this] at hx
            obtain ⟨d, hd, rfl⟩ := Option.map_eq_some_iff.1 hx
            have ht := (List.getElem?_eq_some_iff.1 hd).1
            have hv : vs[t]? = some vs[t] := List.getElem?_eq_getElem (by omega)
            have := hvs t _ d hv hd
            show RD I w _ d
            have hg : (vs.toArray ++ Array.replicate (fn.ntmps - vs.toArray.size) undef).getD t undef = vs[t] := by
              rw [Array.getD_eq_getD_getElem?, Array.getElem?_append_left (by simp; omega)]
              simp [hv]
            rw [hg]; exact this
        · cases hc
    · cases hc
  · cases hc

theorem beqT (b : Bool) : (b == true) = b := by cases b <;> rfl
theorem beqF (b : Bool) : (b == false) = !b := by cases b <;> rfl

/-- A loop that counts up to n and leaves own blocks behind. -/
theorem LoopK.countJ {P : Program} {c : CC} {Q : Exit → Fr → List AObj → Prop} {fr : Fr} {s : List AObj} (F : Nat → Fr) (S : Nat → List AObj → List AObj) (I : Nat → Prop) (n : Nat) (J0 : List AObj) (hs : SubB (F 0) fr) (hS : s = S 0 J0) (h0 : I 0)
    (h : ∀ k J, k ≤ n → I k → wpK P c (SeqQ (fun fr' s' => k < n ∧ SubB (F (k + 1)) fr' ∧ (∃ J', s' = S (k + 1) J') ∧ I (k + 1)) Q) (F k) (S k J)) : LoopK P c Q fr s := by
  refine LoopK.at (fun b : Nat × List AObj => F b.1) (fun b => S b.1 b.2) (fun m b => b.1 ≤ n ∧ m = n - b.1 ∧ I b.1) n (0, J0) hs hS ⟨Nat.zero_le _, by simp, h0⟩ ?_
  rintro m ⟨k, J⟩ ⟨hk, hm, hi⟩
  refine wpK_mono (h k J hk hi) fun e fr' s' hq => ?_
  cases e with
  | normal => obtain ⟨h1, h2, ⟨J', h3⟩, h4⟩ := hq; exact ⟨n - (k + 1), (k + 1, J'), by dsimp only at hm hk; omega, h2, h3, by dsimp only; omega, rfl, h4⟩
  | _ => exact hq
end Go.Ab
