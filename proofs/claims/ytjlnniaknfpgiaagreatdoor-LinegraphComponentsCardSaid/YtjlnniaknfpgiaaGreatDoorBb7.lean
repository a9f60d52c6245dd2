/-
  Part Bb7 of this claim's proof. Joined by merge.py from the texts of wip/tpl.
-/
import Derived.Test.YtjlnniaknfpgiaaGreatDoorBbE
import Derived.Laws.Tables
set_option linter.unusedVariables false
set_option linter.unusedSimpArgs false
set_option linter.unnecessarySimpa false
set_option linter.unusedVariables false
namespace Go.Bb
open Go Go.RowKit Go.Ab

/-- How many cells a value of a type that is loaded has: none: one cell, and no struct. -/
def szOf (P : Program) (t : TypeId) : Option (Option Nat) :=
  match P.underlying t, P.info? t with
  | some d, some i => some (if d.isRow then some i.size else none)
  | _, _ => none
theorem szOf_inv {P : Program} {t : TypeId} {n : Option Nat} (h : szOf P t = some n) : ∃ d i, P.underlying t = some d ∧ P.info? t = some i ∧ n = (if d.isRow then some i.size else none) := by
  unfold szOf at h
  split at h
  · rename_i d i hu hi; exact ⟨d, i, hu, hi, (Option.some.inj h).symm⟩
  · cases h

def leafTys (P : Program) : Nat → TypeId → List TypeId
  | 0, _ => []
  | d + 1, t => match P.underlying t with
    | some (.struct fs) => fs.toList.flatMap fun f => leafTys P d f.type
    | some (.array n e) => (List.range n).flatMap fun _ => leafTys P d e
    | _ => [t]

/-- A constant. -/
def cL (P : Program) (t : TypeId) (v : Value) : AV :=
  match v with
  | .slice none 0 0 => match P.underlying t with
    | some (.slice e) => .nil (P.cellsOf e)
    | _ => .nil 0
  | _ => .d (.sc v)
def cA (P : Program) (t : TypeId) (v : Value) : Option AV :=
  match v with
  | .agg cs => if cs.all (·.oneCell') then some (.agg (cs.toList.zipIdx.map fun (u, i) => cL P ((leafTys P 12 t).getD i 0) u)) else none
  | _ => some (cL P t v)
def cX (P : Program) (t : TypeId) : Operand → Option X
  | .tmp n => some (.t n)
  | .const v => (cA P t v).map .c
  | .func f => some (.c (.clo f [] []))
  | _ => none
def cXo (P : Program) (t : TypeId) : Option Operand → Option (Option X)
  | none => some none
  | some p => (cX P t p).map some
def cXs (P : Program) : List TypeId → List Operand → Option (List X)
  | _, [] => some []
  | ts, p :: l => match cX P (ts.headD 0) p, cXs P ts.tail l with
    | some x, some xs => some (x :: xs)
    | _, _ => none

theorem cL_ok (P : Program) (t : TypeId) (u : Value) (k : Cfg) (w : World) : RA k w u (cL P t u) := by
  unfold cL
  split
  · split <;> exact .nil
  · exact .d (RD.sc _)
theorem cA_ok {P : Program} {t : TypeId} {v : Value} {x : AV} (h : cA P t v = some x) (k : Cfg) (w : World) : RA k w v x := by
  unfold cA at h
  split at h
  · rename_i cs
    split at h
    · rename_i hc
      obtain rfl := Option.some.inj h
      have hcs : cs = cs.toList.toArray := by simp
      rw [hcs]
      refine .agg (us := cs.toList) (by simp) (fun u hu => ?_) (fun i u d hu hd => ?_)
      · exact Array.all_eq_true_iff_forall_mem.1 hc u (by simpa using hu)
      · simp only [List.getElem?_map, List.getElem?_zipIdx, Nat.zero_add] at hd
        rw [hu] at hd
        simp at hd
        subst hd
        exact cL_ok ..
    · cases h
  · obtain rfl := Option.some.inj h
    exact cL_ok P t v k w
theorem cX_ok {P : Program} {t : TypeId} {p : Operand} {x : X} (h : cX P t p = some x) {k : Cfg} {w : World} {a : Act} {fr : Fr} {d : AV} (hd : x.ev fr = some d)
    (hf : ∀ u y, p = .tmp u → look fr u = some y → RA k w (a.tmps.getD u undef) y) : RA k w (a.eval p) d := by
  cases p with
  | tmp n =>
    simp [cX] at h; subst h
    exact hf n d rfl hd
  | const v =>
    unfold cX at h
    obtain ⟨y, hy, rfl⟩ := Option.map_eq_some_iff.1 h
    obtain rfl := Option.some.inj hd
    exact cA_ok hy k w
  | global g => simp [cX] at h
  | func f =>
    simp [cX] at h; subst h
    obtain rfl := Option.some.inj hd
    exact .clo (us := []) (vs := []) rfl rfl (by simp) (by simp)

/-- Parts of a struct, of an array, of a slice's elements. -/
def cParts (P : Program) (place : Nat → Option (Nat × Nat)) (ty : Nat → TypeId) : List (Nat × Operand) → Option (List (Nat × Nat × X))
  | [] => some []
  | (i, p) :: l => match place i, cX P (ty i) p, cParts P place ty l with
    | some (off, size), some x, some l' => some ((off, size, x) :: l')
    | _, _, _ => none
def zCells (P : Program) (t : TypeId) (us : List Value) : List AV := us.zipIdx.map fun (u, i) => cL P ((leafTys P 12 t).getD (i % (leafTys P 12 t).length) 0) u
def compBuild (P : Program) (t : TypeId) (parts : List (Nat × Operand)) : Option CI :=
  match P.info? t, P.underlying t with
  | some it, some (.struct fs) => match it.zero, fs.toList.mapM (fun f => (P.info? f.type).map fun i => (f.offset, i.size)) with
    | some z, some places => if z.cells.all (·.oneCell') then (cParts P (places.toArray[·]?) (fun i => ((fs[i]?).map (·.type)).getD 0) parts).map (.bld (zCells P t z.cells.toList)) else none
    | _, _ => none
  | some it, some (.array _ e) => match it.zero, P.info? e with
    | some z, some ie => if z.cells.all (·.oneCell') then (cParts P (fun i => some (i * ie.size, ie.size)) (fun _ => e) parts).map (.bld (zCells P t z.cells.toList)) else none
    | _, _ => none
  | _, _ => none
def zeros (z : Array Value) (n : Nat) : Array Value := (Array.range n).map (z[· % z.size]!)
def compRow (P : Program) (fz mu : Bool) (t : TypeId) (n : Nat) (parts : List (Nat × Operand)) : Option CI :=
  match P.underlying t with
  | some (.slice e) => match P.info? e with
    | some ie => match ie.zero with
      | some z => if 0 < ie.size ∧ n * ie.size ≤ 2 ^ 24 ∧ (zeros z.cells (n * ie.size)).all (·.oneCell') = true then
          (cParts P (fun i => some (i * ie.size, ie.size)) (fun _ => e) parts).map fun qs => if fz then .bsf ie.size n (zCells P e (zeros z.cells (n * ie.size)).toList) qs else .bsl mu e ie.size n (zCells P e (zeros z.cells (n * ie.size)).toList) qs else none
      | none => none
    | none => none
  | _ => none
/-- The mark of a slot whose row is never written again. -/
def frozen (mus : List Nat) (o : Oper) : Bool := (o.dst.map fun d => mus.contains (d + 100000)).getD false
def mutab (mus : List Nat) (o : Oper) : Bool := (o.dst.map mus.contains).getD false
def compMks (P : Program) (mu : Bool) (t : TypeId) (l c : Operand) : Option CI :=
  match P.underlying t, cX P 0 l, cX P 0 c with
  | some (.slice e), some l, some c => match P.info? e with
    | some ie => match ie.zero with
      | some z => if ie.size = 1 ∧ z.oneCell' = true ∧ 0 < ie.bytes then some (.mks mu e ie.bytes (cL P e z) l c) else none
      | none => none
    | none => none
  | _, _, _ => none
def eqNeg : BinOp → Option Bool
  | .eql => some false
  | .neq => some true
  | _ => none
def isAggT (P : Program) (t : TypeId) : Bool := match P.underlying t with
  | some (.struct _) => true
  | some (.array _ _) => true
  | _ => false
/-- Equality by cells. -/
def eqTy (P : Program) (op : BinOp) (t : TypeId) : Option (Bool × List SK × Bool) :=
  match eqNeg op, P.underlying t with
  | some neg, some (.struct _) => if P.eqGuardType P.depth t = false then (leafS P 12 t).map fun ks => (true, ks, neg) else none
  | some neg, some (.array _ _) => if P.eqGuardType P.depth t = false then (leafS P 12 t).map fun ks => (true, ks, neg) else none
  | some neg, some .bool => (leafS P 12 t).map fun ks => (false, ks, neg)
  | _, _ => none
def nilTy (P : Program) (op : BinOp) (t : TypeId) (y : Operand) : Option Bool := match P.underlying t, y with
  | some (.slice _), .const (.slice none 0 0) => match op with
    | .eql => some false
    | .neq => some true
    | _ => none
  | _, _ => none
def compBin (P : Program) (op : BinOp) (t : TypeId) (x y : Operand) : Option CI :=
  match nilTy P op t y with
  | some neg => match cX P t x with
    | some x => some (.isn neg x)
    | none => none
  | none => match cX P t x, cX P t y with
  | some x, some y => match eqTy P op t with
    | some (ag, ks, neg) => some (.eqa ag ks neg x y)
    | none => some (.bin op x y)
  | _, _ => none
def compLen (P : Program) : List Operand → List TypeId → Option CI
  | [x], [t] => match P.underlying t, cX P t x with
    | some (.slice _), some x => some (.len 0 x)
    | some .string, some x => some (.len 1 x)
    | some (.map _ _), some x => some (.len 2 x)
    | _, _ => none
  | _, _ => none
def compApp (P : Program) (mu : Bool) : List Operand → List TypeId → Option CI
  | [x, y], [t, t'] => match P.underlying t, cX P t x, cX P t y with
    | some (.slice e), some x, some y => match P.info? e with
      | some j => match j.zero with
        | some z => if t = t' ∧ z.cells.size = j.size ∧ 0 < j.size then some (.app mu e j.size j.bytes x y) else none
        | none => none
      | none => none
    | _, _, _ => none
  | _, _ => none
def compMM (P : Program) (mx : Bool) : List Operand → List TypeId → Option CI
  | [x, y], [t, t'] => match cX P t x, cX P t' y with
    | some x, some y => some (.mm mx x y)
    | _, _ => none
  | _, _ => none
def compClr (P : Program) : List Operand → List TypeId → Option CI
  | [p], [t] => match P.underlying t, cX P t p with
    | some (.slice e), some x => match P.info? e with
      | some i => match i.zero with
        | some z => if z.cells.all (·.oneCell') ∧ z.cells.size = i.size then some (.clr i.size (zCells P e z.cells.toList) x) else none
        | none => none
      | none => none
    | _, _ => none
  | _, _ => none
def compCall (P : Program) (mu : Bool) (c : Call) : Option CI :=
  match c.callee with
  | .builtin .len => compLen P c.args.toList c.argTypes.toList
  | .builtin .append => compApp P mu c.args.toList c.argTypes.toList
  | .builtin .clear => compClr P c.args.toList c.argTypes.toList
  | .builtin .max => compMM P true c.args.toList c.argTypes.toList
  | .builtin .min => compMM P false c.args.toList c.argTypes.toList
  | .value (.func f) => (cXs P c.argTypes.toList c.args.toList).map fun xs => .call (.fn f) xs
  | .value p => match cX P 0 p, cXs P c.argTypes.toList c.args.toList with
    | some x, some xs => some (.call (.val x) xs)
    | _, _ => none
  | _ => none
def isZero : Operand → Bool
  | .const (.int .i64 0) => true
  | _ => false
def compSlice (P : Program) (t : TypeId) (x : Operand) (lo hi mx : Option Operand) : Option CI :=
  match P.underlying t, cX P 0 x, cXo P 0 lo, cXo P 0 hi with
  | some (.slice e), some x, some lo', some hi' => match P.info? e, mx with
    | some j, none => some (.slc j.size x lo' hi')
    | some j, some m => if isZero m && hi.any isZero && lo.all isZero then some (.slz j.size x) else none
    | _, _ => none
  | some (.pointer arr), some x, some lo', some hi' => match P.underlying arr, mx with
    | some (.array n e), none => match P.info? e with
      | some j => if n ≤ 9223372036854775807 then some (.sla n j.size x lo' hi') else none
      | none => none
    | _, _ => none
  | some (.array n e), some x, some lo', some hi' => match P.info? e, mx with
    | some j, none => if n ≤ 9223372036854775807 then some (.sla n j.size x lo' hi') else none
    | _, _ => none
  | some .string, some x, some lo', some hi' => if mx.isNone then some (.sls x lo' hi') else none
  | _, _, _, _ => none
def compIndex (P : Program) (t : TypeId) (x i : Operand) : Option CI :=
  match P.underlying t, cX P t x, cX P 0 i with
  | some (.array n e), some x, some i => match szOf P e, P.info? e with
    | some m, some j => some (.idx n j.size m x i)
    | _, _ => none
  | some .string, some x, some i => some (.six x i)
  | _, _, _ => none
def compConvert (P : Program) (mu : Bool) (src dst : TypeId) (x : Operand) : Option CI :=
  match P.underlying src, P.underlying dst, cX P src x with
  | some (.int _), some (.int k), some x => some (.cnv k x)
  | some .string, some (.slice e), some x => match P.underlying e with
    | some (.int .u8) => some (if mu then .s2o e x else .s2b x)
    | _ => none
  | some (.slice e), some .string, some x => match P.underlying e with
    | some (.int .u8) => some (.b2s x)
    | _ => none
  | _, _, _ => none
/-- The zero of a map's elements. -/
def zeroA (P : Program) (e : TypeId) : Option AV := match P.info? e with
  | some i => match i.zero with
    | some z => cA P e z
    | none => none
  | none => none
def compLookup (P : Program) (t : TypeId) (m k : Operand) (ok : Bool) : Option CI :=
  match P.underlying t with
  | some (.map kt et) => match cX P t m, cX P kt k, leafS P 12 kt, zeroA P et with
    | some m, some k, some ks, some z => some (.lkp (isAggT P kt) ks z ok m k)
    | _, _, _, _ => none
  | _ => none
def compMup (P : Program) (t : TypeId) (m k v : Operand) : Option CI :=
  match P.underlying t with
  | some (.map kt et) => match cX P t m, cX P kt k, cX P et v, leafS P 12 kt with
    | some m, some k, some v, some ks => some (.mup (isAggT P kt) ks m k v)
    | _, _, _, _ => none
  | _ => none
def compMen (P : Program) (t : TypeId) (m k : Operand) : Option CI :=
  match P.underlying t with
  | some (.map kt et) => match cX P t m, cX P kt k, leafS P 12 kt, zeroA P et with
    | some m, some k, some ks, some z => some (.men (isAggT P kt) ks z m k)
    | _, _, _, _ => none
  | _ => none
def compMst (P : Program) (t : TypeId) (m i v : Operand) : Option CI :=
  match P.underlying t with
  | some (.map _ et) => match cX P t m, cX P 0 i, cX P et v with
    | some m, some i, some v => some (.mst m i v)
    | _, _, _ => none
  | _ => none
def compIad (P : Program) (t : TypeId) (x i : Operand) : Option CI :=
  match P.underlying t, cX P 0 x, cX P 0 i with
  | some (.slice e), some x, some i => match P.info? e with
    | some j => some (.iad j.size x i)
    | none => none
  | some (.array n e), some x, some i => match P.info? e with
    | some j => some (.iap n j.size x i)
    | none => none
  | _, _, _ => none

def compOp (P : Program) (mus : List Nat) (o : Oper) : Option CI :=
  match o.op with
  | .move x => (cX P o.type x).map .mov
  | .assign x => (cX P o.type x).map .mov
  | .pick c a b => match cX P 0 c, cX P o.type a, cX P o.type b with
    | some c, some a, some b => some (.pick c a b)
    | _, _, _ => none
  | .load t x => match szOf P t, cX P 0 x with
    | some n, some x => some (.ld n x)
    | _, _ => none
  | .store t x v => match P.info? t, cX P 0 x, cX P t v with
    | some i, some x, some v => some (.st i.size x v)
    | _, _, _ => none
  | .fieldAddr t x f => match P.underlying t, cX P 0 x with
    | some (.struct fs), some x => match fs[f]? with
      | some fd => if P.cellsOf fd.type = 0 then none else some (.fad fd.offset x)
      | none => none
    | _, _ => none
  | .indexAddr t x i => compIad P t x i
  | .index t x i => compIndex P t x i
  | .field t x f => match P.underlying t, cX P t x with
    | some (.struct fs), some x => match fs[f]? with
      | some fd => match szOf P fd.type with
        | some n => some (.fld fd.offset n x)
        | none => none
      | none => none
    | _, _ => none
  | .extract x i => (cX P 0 x).map fun x => .ext x i
  | .binOp op t x y _ => compBin P op t x y
  | .unOp .not _ x => (cX P 0 x).map .not
  | .unOp .neg t x => match P.underlying t with
    | some (.int _) => (cX P 0 x).map (.un .neg)
    | _ => none
  | .unOp .xor t x => match P.underlying t with
    | some (.int _) => (cX P 0 x).map (.un .xor)
    | _ => none
  | .slice t x lo hi mx => compSlice P t x lo hi mx
  | .box t x => (cX P t x).map (if frozen mus o then .bxf else .box)
  | .alloc t => match P.info? t with
    | some i => match i.zero with
      | some z => (cA P t z).map fun c => if frozen mus o then .bxt t (.c c) else .box (.c c)
      | none => none
    | none => none
  | .build t parts => compBuild P t parts.toList
  | .buildSlice t n parts => compRow P (frozen mus o) (mutab mus o) t n parts.toList
  | .makeSlice t l c => compMks P (mutab mus o) t l c
  | .convert src dst x => compConvert P (mutab mus o) src dst x
  | .nilCheck x => (cX P 0 x).map .nck
  | .makeFunc (.func f) xs ys => match cXs P [] xs.toList, cXs P [] ys.toList with
    | some xs, some ys => some (.mkf f xs ys)
    | _, _ => none
  | .makeMap t none => match P.underlying t with
    | some (.map kt _) => some (.mkm (isAggT P kt))
    | _ => none
  | .lookup t m k ok => compLookup P t m k ok
  | .mapUpdate t m k v => compMup P t m k v
  | .insert t m k v => compMup P t m k v
  | .mapEntry t m k => compMen P t m k
  | .entryStore t m i v => compMst P t m i v
  | .call c => compCall P (mutab mus o) c
  | _ => none

theorem OpWp.value {P : Program} {o : Oper} {a : Act} {w : World} {Q : Value → World → Prop} {v : Value} {w' : World} (h : (execOp a.eval o).run P w = .ok (.value v) w') (hq : Q v w') : OpWp P o a w Q := fun hn r QQ => by
  refine ⟨fun f _ => FW_fn r f, ?_⟩
  rw [FW_round, semAt_plain hn, h]; exact ⟨v, rfl, hq⟩
theorem OpWp.skip {P : Program} {o : Oper} {a : Act} {w : World} {Q : Value → World → Prop} {w' : World} (h : (execOp a.eval o).run P w = .ok .skip w') (hq : Q undef w') : OpWp P o a w Q := fun hn r QQ => by
  refine ⟨fun f _ => FW_fn r f, ?_⟩
  rw [FW_round, semAt_plain hn, h]; exact ⟨undef, rfl, hq⟩
theorem run_value {P : Program} {w w' : World} {s : Sem Value} {v : Value} (h : s.run P w = .ok v w') : (do pure (Next.value (← s)) : Sem Next).run P w = .ok (.value v) w' := by
  simp only [Sem.run_bind, h, Result.andThen_ok, Sem.run_pure]
theorem run_unit {P : Program} {w w' : World} {s : Sem Unit} (h : s.run P w = .ok () w') : (do s; pure Next.skip : Sem Next).run P w = .ok .skip w' := by
  simp only [Sem.run_bind, h, Result.andThen_ok, Sem.run_pure]
theorem run_binS {P : Program} (w : World) {op : BinOp} {u v r : Value} (h : binS op u v = some r) (t : TypeId) (x y : Operand) : (do eqGuard op t x y u v; binOp op t u v : Sem Value).run P w = .ok r w := by
  unfold binS at h
  split at h <;> first
    | (cases h; done)
    | (split at h <;> first | (cases h; done) | (rename_i e; subst e; obtain rfl := Option.some.inj h; simp [eqGuard, binOp, Op.intArith, Op.intCmp, go_sem]; done))
    | (split at h <;> first | (cases h; done) | (rename_i e; subst e; obtain rfl := Option.some.inj h; simp [eqGuard, binOp, Op.intBits, go_sem]; done))
    | (split at h <;> first | (cases h; done) | (rename_i e; obtain ⟨e, e0⟩ := e; subst e; obtain rfl := Option.some.inj h; simp [eqGuard, binOp, Op.intDiv, if_neg e0, go_sem]; done))
    | (split at h <;> first | (cases h; done) | (rename_i e; obtain rfl := Option.some.inj h; simp [eqGuard, binOp, Op.shift, if_neg (Int.not_lt.2 e), go_sem]; done))
    | (obtain rfl := Option.some.inj h; simp [eqGuard, binOp, Op.stringOp, go_sem]; done)
    | skip
  rename_i a b
  split at h
  · rename_i hle
    obtain rfl := Option.some.inj h
    have : ¬ (((a.size + b.size : Nat) : Int) > IntKind.i64.max) := by
      rw [show IntKind.i64.max = 9223372036854775807 by decide]; omega
    simp only [eqGuard, binOp, Op.stringOp, if_neg this]
    simp [go_sem]
  · cases h

/-- What is told of a slot that holds a scalar. -/
theorem RA.sc_eq {k : Cfg} {w : World} {v u : Value} {x : AV} (h : RA k w v x) (hx : x.sc? = some u) : v = u := by
  unfold AV.sc? at hx
  split at hx
  · obtain rfl := Option.some.inj hx; have := h.d_inv; cases this; rfl
  · cases hx
theorem AV.bool_sc {x : AV} {b : Bool} (h : x.bool? = some b) : x.sc? = some (.bool b) := by
  unfold AV.bool? at h
  split at h
  · obtain rfl := Option.some.inj h; rfl
  · cases h
theorem AV.num_sc {x : AV} {n : Int} (h : x.num? = some n) : ∃ k, x.sc? = some (.int k n) := by
  unfold AV.num? at h
  split at h
  · obtain rfl := Option.some.inj h; exact ⟨_, rfl⟩
  · cases h
theorem AV.int_sc {x : AV} {n : Int} (h : x.int? = some n) : x.sc? = some (.int .i64 n) := by
  unfold AV.int? at h
  split at h
  · obtain rfl := Option.some.inj h; rfl
  · cases h
theorem AV.str_sc {x : AV} {b : ByteArray} (h : x.str? = some b) : x.sc? = some (.string b) := by
  unfold AV.str? at h
  split at h
  · obtain rfl := Option.some.inj h; rfl
  · cases h
theorem slA_toL {sz : Nat} {x : AV} {rows : List (List D)} (h : slA sz x = some rows) : x.toL = some (.sl sz rows) := by
  unfold slA at h
  split at h
  · split at h
    · rename_i e; obtain rfl := e; obtain rfl := Option.some.inj h; rfl
    · cases h
  · split at h
    · rename_i e; obtain rfl := e; obtain rfl := Option.some.inj h; rfl
    · cases h
  · split at h
    · rename_i e; obtain rfl := e; obtain rfl := Option.some.inj h; rfl
    · cases h
  · split at h
    · rename_i e; obtain rfl := e; obtain rfl := Option.some.inj h; rfl
    · cases h
  · cases h
theorem RA.slA {k : Cfg} {w : World} {v : Value} {sz : Nat} {x : AV} {rows : List (List D)} (h : RA k w v x) (hx : Bb.slA sz x = some rows) : RD k.I w v (.sl sz rows) := h.toL (slA_toL hx)

/-- A load. -/
theorem run_load1 {P : Program} {w : World} {p : Addr} {v : Value} (hc : w.cell? p = some v) {t : TypeId} (hs : szOf P t = some none) : (Instr.loadAt t (.pointer (some p))).run P w = .ok v w := by
  obtain ⟨d, i, hu, hi, hn⟩ := szOf_inv hs
  have hr : d.isRow = false := by cases h : d.isRow <;> simp [h] at hn ⊢
  simp [Instr.loadAt, Instr.sureAddr, loadVar, run_isAgg hu, hr, hc]
theorem szOf_row {P : Program} {t : TypeId} {m : Nat} (hs : szOf P t = some (some m)) : ∃ d, P.underlying t = some d ∧ d.isRow = true ∧ (P.info? t).map (·.size) = some m := by
  obtain ⟨d, i, hu, hi, hn⟩ := szOf_inv hs
  have hr : d.isRow = true := by cases h : d.isRow <;> simp [h] at hn ⊢
  rw [hr] at hn
  simp at hn
  exact ⟨d, hu, hr, by rw [hi]; simp [hn]⟩
theorem run_loadm {P : Program} {w : World} {b off : Nat} {us : List Value} (hc : w.rangeAt b off us) {t : TypeId} (hs : szOf P t = some (some us.length)) : (Instr.loadAt t (.pointer (some ⟨b, off, none⟩))).run P w = .ok (.agg us.toArray) w := by
  obtain ⟨d, h1, h2, h3⟩ := szOf_row hs
  simp only [Instr.loadAt, Instr.sureAddr, Sem.run_bind, Sem.run_pure, Result.andThen_ok, run_loadVar_mid w b off t us d hc h1 h2 h3]
theorem cells_at {w : World} {b t : Nat} {us : List Value} (h : w.heap[b]? = some (.cells us.toArray t (0, 0))) (i : Nat) : w.cell? ⟨b, i, none⟩ = us[i]? := by
  rw [cell_of_row w b i _ t (0, 0) h]; simp

/-- Cells of an own block, read. -/
theorem load_pickM {P : Program} {k : Cfg} {w : World} {b base off : Nat} {us : List Value} {cs : List AV} {t : TypeId} {n : Option Nat} {d : AV} (hc : ∀ i u, us[i]? = some u → w.cell? ⟨b, base + i, none⟩ = some u) (hr : RAs k w us cs) (hs : szOf P t = some n) (hd : pickM cs off n = some d) :
    ∃ v, (Instr.loadAt t (.pointer (some ⟨b, base + off, none⟩))).run P w = .ok v w ∧ RA k w v d := by
  cases n with
  | none =>
    obtain ⟨u, hu1, hu2, hu3⟩ := hr.get hd
    exact ⟨u, run_load1 (hc off u hu1) hs, hu3⟩
  | some m =>
    have hd1 : (if off + m ≤ cs.length then some (AV.agg ((cs.drop off).take m)) else none) = some d := hd
    split at hd1
    · rename_i hm
      obtain rfl := Option.some.inj hd1
      have h5 := (hr.drop off).take m
      have hlen : ((us.drop off).take m).length = m := by rw [h5.1]; simp; omega
      refine ⟨.agg ((us.drop off).take m).toArray, run_loadm (fun j v hj => ?_) (by rw [hlen]; exact hs), .agg h5.1 h5.2.1 h5.2.2⟩
      rw [List.getElem?_take] at hj
      split at hj
      · rw [List.getElem?_drop] at hj
        rw [Nat.add_assoc]; exact hc _ _ hj
      · cases hj
    · cases hd1
theorem load_pickD {P : Program} {k : Cfg} {w : World} {b base off : Nat} {us : List Value} {ds : List D} {t : TypeId} {n : Option Nat} {d : AV} (hc : ∀ i u, us[i]? = some u → w.cell? ⟨b, base + i, none⟩ = some u) (hr : RDs k.I w us ds) (hs : szOf P t = some n) (hd : pickD ds off n = some d) :
    ∃ v, (Instr.loadAt t (.pointer (some ⟨b, base + off, none⟩))).run P w = .ok v w ∧ RA k w v d := by
  cases n with
  | none =>
    obtain ⟨e, he, rfl⟩ := Option.map_eq_some_iff.1 hd
    obtain ⟨u, hu1, hu2⟩ := hr.get he
    exact ⟨u, run_load1 (hc off u hu1) hs, .d hu2⟩
  | some m =>
    have hd1 : (if off + m ≤ ds.length then some (AV.d (.agg ((ds.drop off).take m))) else none) = some d := hd
    split at hd1
    · rename_i hm
      obtain rfl := Option.some.inj hd1
      have h5 := (hr.drop off).take m
      have hlen : ((us.drop off).take m).length = m := by rw [h5.1]; simp; omega
      refine ⟨.agg ((us.drop off).take m).toArray, run_loadm (fun j v hj => ?_) (by rw [hlen]; exact hs), .d (.agg _ _ h5.1 h5.2.1 h5.2.2)⟩
      rw [List.getElem?_take] at hj
      split at hj
      · rw [List.getElem?_drop] at hj
        rw [Nat.add_assoc]; exact hc _ _ hj
      · cases hj
    · cases hd1

theorem cellsO_inv {o : Option AObj} {cs : List AV} (h : cellsO o = some cs) : o = some (.cells cs) := by
  unfold cellsO at h
  split at h
  · obtain rfl := Option.some.inj h; rfl
  · cases h
theorem vecO_inv {n : Nat} {o : Option AObj} {sz : Nat} {ds : List AV} (h : vecO n o = some (sz, ds)) : ∃ e, o = some (.vec e sz ds) ∧ 0 < sz ∧ ds.length = n * sz := by
  unfold vecO at h
  split at h
  · split at h
    · rename_i hc; cases h; exact ⟨_, rfl, hc.1, hc.2⟩
    · cases h
  · cases h
theorem mapO_inv {ag : Bool} {o : Option AObj} {es : List (List Value × AV)} (h : mapO' ag o = some es) : o = some (.map ag es) := by
  unfold mapO' at h
  split at h
  · split at h
    · rename_i e; subst e; obtain rfl := Option.some.inj h; rfl
    · cases h
  · cases h
theorem mapN_inv {o : Option AObj} {n : Int} (h : mapN o = some n) : ∃ ag es, o = some (.map ag es) ∧ n = es.length := by
  unfold mapN at h
  split at h
  · obtain rfl := Option.some.inj h; exact ⟨_, _, rfl, rfl⟩
  · cases h
theorem mapP_inv {o : Option AObj} {ag : Bool} {es : List (List Value × AV)} (h : mapP o = some (ag, es)) : o = some (.map ag es) := by
  unfold mapP at h
  split at h
  · obtain ⟨rfl, rfl⟩ := Prod.mk.inj (Option.some.inj h); rfl
  · cases h

section
variable {LL : Nat → Code → CC → Prop} {P : Program} {o : Oper} {fr : Fr} {s s' : List AObj} {d : AV}

/-- Where the cells of a row that is written lie. -/
theorem vec_at {B : Nat} {k : Cfg} {w : World} (hst : St LL B k s w) {id e sz n : Nat} {ds : List AV} (hid : s[id]? = some (.vec e sz ds)) (hsz : 0 < sz) (hn : ds.length = n * sz) {b : Nat}
    (hb : ∃ u n', k.own[id]? = some (.row u n') ∧ n ≤ n' ∧ (n = n' → u.ownBlock = some b)) :
    ∃ u xs cap cur, k.own[id]? = some (.row u n) ∧ w.ownsRow B e sz u n xs ∧ u = .slice (some ⟨b, 0, none⟩) n cap ∧ B ≤ b ∧ w.heap[b]? = some (.cells cur e (0, 0)) ∧ n ≤ cap ∧ cap ≤ maxLen ∧ cur.size = cap * sz ∧ cur.toList.take (n * sz) = xs ∧ RAs k w xs ds ∧ k.I b = 0 ∧ ∀ (i : Nat) (x : Value), xs[i]? = some x → w.cell? ⟨b, i, none⟩ = some x := by
  obtain ⟨u, n', h1, h2, h3⟩ := hb
  obtain ⟨u2, n2, xs, g1, g2, g3, g4, g5⟩ := hst.vec hid
  rw [h1] at g1; cases g1
  have hnn : n = n' := by
    rw [hn] at g4
    exact Nat.eq_of_mul_eq_mul_right hsz g4
  subst hnn
  have hbk := h3 rfl
  rcases g2.2 with ⟨rfl, _⟩ | ⟨g, cap, cur, rfl, k2, k3, k4, k5, k6, k7⟩
  · simp [Value.ownBlock] at hbk
  · simp [Value.ownBlock] at hbk
    subst hbk
    refine ⟨_, xs, cap, cur, h1, g2, rfl, k2, k3, k4, k5, k6, k7, g5, g3 _ rfl, fun i x hx => ?_⟩
    have := g2.cells (g := g) rfl i x hx
    rw [Addr.add_mid, Nat.zero_add] at this
    exact this

theorem ret_inv {o : Option AV} (h : ret s o = some (d, s')) : o = some d ∧ s' = s := by
  obtain ⟨x, h1, h2⟩ := Option.map_eq_some_iff.1 h
  obtain ⟨rfl, rfl⟩ := Prod.mk.inj h2
  exact ⟨h1, rfl⟩
theorem bind_inv {α β : Type} {o : Option α} {f : α → Option β} {y : β} (h : o.bind f = some y) : ∃ x, o = some x ∧ f x = some y := Option.bind_eq_some_iff.1 h
theorem map_inv {α β : Type} {o : Option α} {f : α → β} {y : β} (h : o.map f = some y) : ∃ x, o = some x ∧ f x = y := Option.map_eq_some_iff.1 h

/-- An operation that only computes. -/
theorem AOp.pure (h : ∀ (B : Nat) (k : Cfg) (a : Act) (w : World), Ops k w a o fr → St LL B k s w → ∃ v, (execOp a.eval o).run P w = .ok (.value v) w ∧ RA k w v d) : AOp LL P o fr s d s :=
  fun B k a w ho hs => let ⟨v, h1, h2⟩ := h B k a w ho hs; OpWp.value h1 ⟨k, h2, Ext.refl B k w, hs⟩

theorem ops_x {k : Cfg} {w : World} {a : Act} {o : Oper} {fr : Fr} (h : Ops k w a o fr) {p : Operand} (hp : p ∈ o.op.operands) : ∀ u y, p = .tmp u → look fr u = some y → RA k w (a.tmps.getD u undef) y :=
  fun u y e hl => h u y (by rw [← e]; exact hp) hl
theorem ev_ok {k : Cfg} {w : World} {a : Act} {o : Oper} {fr : Fr} (ho : Ops k w a o fr) {p : Operand} (hp : p ∈ o.op.operands) {t : TypeId} {x : X} (hx : cX P t p = some x) {c : AV} (hc : x.ev fr = some c) : RA k w (a.eval p) c :=
  cX_ok hx hc (ops_x ho hp)

theorem ok_mov {x : Operand} {t : TypeId} {y : X} (ho : o.op = .move x ∨ o.op = .assign x) (hx : cX P t x = some y) (h : (CI.mov y).sem fr s = some (d, s')) : AOp LL P o fr s d s' := by
  obtain ⟨hc, rfl⟩ := ret_inv h
  refine AOp.pure fun B k a w hops hst => ⟨a.eval x, ?_, ev_ok (p := x) hops (by rcases ho with ho | ho <;> rw [ho] <;> simp [Op.operands]) hx hc⟩
  unfold execOp
  rcases ho with ho | ho <;> rw [ho] <;> rfl

theorem ok_pick {c a b : Operand} {t : TypeId} {x y z : X} (ho : o.op = .pick c a b) (hx : cX P 0 c = some x) (hy : cX P t a = some y) (hz : cX P t b = some z) (h : (CI.pick x y z).sem fr s = some (d, s')) : AOp LL P o fr s d s' := by
  obtain ⟨hc, rfl⟩ := ret_inv h
  obtain ⟨v, hv, hd⟩ := bind_inv hc
  obtain ⟨cv, hcv, hb⟩ := bind_inv hv
  refine AOp.pure fun B k ac w hops hst => ?_
  have he := (ev_ok (p := c) hops (by rw [ho]; simp [Op.operands]) hx hcv).sc_eq (AV.bool_sc hb)
  cases v with
  | true =>
    refine ⟨ac.eval a, ?_, ev_ok (p := a) hops (by rw [ho]; simp [Op.operands]) hy hd⟩
    unfold execOp
    rw [ho]
    simp [he, asBool]
  | false =>
    refine ⟨ac.eval b, ?_, ev_ok (p := b) hops (by rw [ho]; simp [Op.operands]) hz hd⟩
    unfold execOp
    rw [ho]
    simp [he, asBool]

theorem ok_ld {t : TypeId} {p : Operand} {n : Option Nat} {x : X} (ho : o.op = .load t p) (hn : szOf P t = some n) (hx : cX P 0 p = some x) (h : (CI.ld n x).sem fr s = some (d, s')) : AOp LL P o fr s d s' := by
  have hp : p ∈ o.op.operands := by rw [ho]; simp [Op.operands]
  obtain ⟨hc, rfl⟩ := ret_inv h
  obtain ⟨v, hv, hd⟩ := bind_inv hc
  refine AOp.pure fun B k a w hops hst => ?_
  have hr := ev_ok hops hp hx hv
  have hrun : ∀ (u : Value), (Instr.loadAt t (a.eval p)).run P w = .ok u w → (execOp a.eval o).run P w = .ok (.value u) w := fun u hr => by
    unfold execOp; rw [ho]; exact run_value hr
  unfold rdLd at hd
  split at hd
  · have h1 := hr.d_inv
    generalize hu : a.eval p = u at h1 hrun
    cases h1 with
    | ref b off us ds h1 h2 h3 h4 =>
      obtain ⟨y, hy1, hy2⟩ := load_pickD (P := P) (base := off) (off := 0) (fun i u hu => (h3 i u hu).2) ⟨h1, h2, h4⟩ hn hd
      exact ⟨y, hrun y hy1, hy2⟩
  · rename_i id off
    obtain ⟨cs, hcs, hd⟩ := bind_inv hd
    obtain ⟨b, hb, hvv⟩ := hr.ptr_inv
    obtain ⟨b', t', us, g1, g2, g3, _⟩ := hst.cells (cellsO_inv hcs)
    rw [hb] at g1; cases g1
    obtain ⟨y, hy1, hy2⟩ := load_pickM (P := P) (base := 0) (off := off) (b := b) (fun i u hu => by rw [Nat.zero_add, cells_at g2]; exact hu) g3 hn hd
    rw [Nat.zero_add] at hy1
    exact ⟨y, hrun y (by rw [hvv]; exact hy1), hy2⟩
  · rename_i id m off
    obtain ⟨⟨sz, ds⟩, hcs, hd⟩ := bind_inv hd
    obtain ⟨e, hid, hsz, hlen⟩ := vecO_inv hcs
    obtain ⟨b, hvv, hb⟩ := hr.vptr_inv
    obtain ⟨u, xs, cap, cur, g1, g2, rfl, g3, g4, g5, g6, g7, g8, g9, g10, g11⟩ := vec_at hst hid hsz hlen hb
    obtain ⟨y, hy1, hy2⟩ := load_pickM (P := P) (base := 0) (off := off) (b := b) (fun i u hu => by rw [Nat.zero_add]; exact g11 i u hu) g9 hn hd
    rw [Nat.zero_add] at hy1
    exact ⟨y, hrun y (by rw [hvv]; exact hy1), hy2⟩
  · cases hd

theorem ref_drop {k : Cfg} {w : World} {b off n : Nat} {us : List Value} {ds : List D} (h3 : ∀ i u, us[i]? = some u → off + i < k.I b ∧ w.cell? ⟨b, off + i, none⟩ = some u) (h : RDs k.I w us ds) : RA k w (.pointer (some ⟨b, off + n, none⟩)) (.d (.ref (ds.drop n))) := by
  have h5 := h.drop n
  refine .d (.ref _ _ _ _ h5.1 h5.2.1 (fun i u hu => ?_) h5.2.2)
  rw [List.getElem?_drop] at hu
  rw [Nat.add_assoc]
  exact h3 _ u hu

/-- A pointer moved on. -/
theorem fad_ok {k : Cfg} {w : World} {v : Value} {x y : AV} {n : Nat} (h : RA k w v x) (hy : rdFad n x = some y) : ∃ b off, v = .pointer (some ⟨b, off, none⟩) ∧ RA k w (.pointer (some ⟨b, off + n, none⟩)) y := by
  unfold rdFad at hy
  split at hy
  · obtain rfl := Option.some.inj hy
    have h1 := h.d_inv
    cases h1 with
    | ref b off us ds h1 h2 h3 h4 => exact ⟨b, off, rfl, ref_drop h3 ⟨h1, h2, h4⟩⟩
  · obtain rfl := Option.some.inj hy
    obtain ⟨b, hb, hv⟩ := h.ptr_inv
    exact ⟨b, _, hv, .ptr hb⟩
  · obtain rfl := Option.some.inj hy
    obtain ⟨b, hv, hb⟩ := h.vptr_inv
    exact ⟨b, _, hv, .vptr hb⟩
  · cases hy

theorem ok_fad {t : TypeId} {p : Operand} {f : Nat} {fs : Array Field} {fd : Field} {x : X} (ho : o.op = .fieldAddr t p f) (hu : P.underlying t = some (.struct fs)) (hf : fs[f]? = some fd) (hz : P.cellsOf fd.type ≠ 0) (hx : cX P 0 p = some x)
    (h : (CI.fad fd.offset x).sem fr s = some (d, s')) : AOp LL P o fr s d s' := by
  have hp : p ∈ o.op.operands := by rw [ho]; simp [Op.operands]
  obtain ⟨hc, rfl⟩ := ret_inv h
  obtain ⟨v, hv, hd⟩ := bind_inv hc
  refine AOp.pure fun B k a w hops hst => ?_
  obtain ⟨b, off, he, hr⟩ := fad_ok (ev_ok hops hp hx hv) hd
  refine ⟨_, ?_, hr⟩
  unfold execOp; rw [ho]
  refine run_value ?_
  have hsz : (sizeOf fd.type).run P w = .ok (P.cellsOf fd.type) w := by
    unfold Program.cellsOf at hz ⊢
    unfold sizeOf typeInfo
    cases hi : P.info? fd.type with
    | none => simp [hi] at hz
    | some i => simp [hi]
  simp only [Instr.fieldAt, Sem.run_bind, run_underlying hu, Result.andThen_ok, hf, he, Instr.sureAddr, Sem.run_pure, fieldPlace, hsz, if_neg hz, Addr.add_mid]

theorem ok_nck {p : Operand} {x : X} (ho : o.op = .nilCheck p) (hx : cX P 0 p = some x) (h : (CI.nck x).sem fr s = some (d, s')) : AOp LL P o fr s d s' := by
  have hp : p ∈ o.op.operands := by rw [ho]; simp [Op.operands]
  obtain ⟨hc, rfl⟩ := ret_inv h
  obtain ⟨v, hv, hd⟩ := bind_inv hc
  refine AOp.pure fun B k a w hops hst => ?_
  obtain ⟨b, off, he, hr⟩ := fad_ok (ev_ok hops hp hx hv) hd
  refine ⟨_, ?_, hr⟩
  unfold execOp; rw [ho]
  dsimp only
  rw [he]
  rfl

theorem ok_iad {t e : TypeId} {j : TypeInfo} {p q : Operand} {x y : X} (ho : o.op = .indexAddr t p q) (hu : P.underlying t = some (.slice e)) (hj : P.info? e = some j) (hx : cX P 0 p = some x) (hy : cX P 0 q = some y)
    (h : (CI.iad j.size x y).sem fr s = some (d, s')) : AOp LL P o fr s d s' := by
  have hp : p ∈ o.op.operands := by rw [ho]; simp [Op.operands]
  have hq : q ∈ o.op.operands := by rw [ho]; simp [Op.operands]
  obtain ⟨hc, rfl⟩ := ret_inv h
  obtain ⟨n, hn, hc⟩ := bind_inv hc
  obtain ⟨iv, hiv, hn⟩ := bind_inv hn
  obtain ⟨v, hv, hd⟩ := bind_inv hc
  refine AOp.pure fun B k a w hops hst => ?_
  have hr := ev_ok hops hp hx hv
  obtain ⟨ik, hik⟩ := AV.num_sc hn
  have hi := (ev_ok hops hq hy hiv).sc_eq hik
  have hrun : ∀ (b off m c : Nat), a.eval p = .slice (some ⟨b, off, none⟩) m c → 0 ≤ n → n < m → (execOp a.eval o).run P w = .ok (.value (.pointer (some ⟨b, off + n.toNat * j.size, none⟩))) w := fun b off m c h1 h3 h4 => by
    unfold execOp; rw [ho]
    refine run_value ?_
    have hcond : 0 ≤ n ∧ n < (m : Int) := ⟨h3, h4⟩
    simp only [Instr.indexAt, h1, hi, asIntOf, Sem.run_bind, Sem.run_pure, Result.andThen_ok, run_underlying hu, if_pos hcond, sizeOf, typeInfo, run_program, hj, Addr.add_mid]
  unfold rdIad at hd
  split at hd
  · rename_i id m sz'
    obtain ⟨⟨sz, ds⟩, hcs, hd1⟩ := bind_inv hd
    obtain ⟨e', hid, hsz, hlen⟩ := vecO_inv hcs
    dsimp only at hd1
    split at hd1
    · rename_i hcc
      obtain ⟨rfl, rfl, c1, c2⟩ := hcc
      obtain rfl := Option.some.inj hd1
      obtain ⟨⟨ad, c, hvv⟩, u, n', hk, hle, heq⟩ := hr.vec_inv
      obtain ⟨u2, n2, xs, g1, g2, g3, g4, g5⟩ := hst.vec hid
      rw [hk] at g1; cases g1
      have hmn : m = n' := by
        rw [hlen] at g4
        exact Nat.eq_of_mul_eq_mul_right hsz g4
      subst hmn
      have hvu := heq rfl
      rw [hvu] at hvv
      rcases g2.2 with ⟨_, h9⟩ | ⟨g, cap, cur, hvv', k2, _⟩
      · omega
      · refine ⟨_, hrun g 0 m cap (by rw [hvu]; exact hvv') c1 (by omega), ?_⟩
        rw [Nat.zero_add]
        exact .vptr ⟨u, m, hk, Nat.le_refl _, fun _ => by rw [hvv']; rfl⟩
    · cases hd1
  · rename_i id off m sz'
    split at hd
    · rename_i hcc
      obtain ⟨rfl, c1, c2⟩ := hcc
      obtain rfl := Option.some.inj hd
      obtain ⟨b, c, hb, hvv, _, _⟩ := hr.win_inv
      exact ⟨_, hrun b off m c hvv c1 (by omega), .ptr hb⟩
    · cases hd
  · rename_i id N off m sz'
    obtain ⟨⟨sz, ds⟩, hcs, hd1⟩ := bind_inv hd
    obtain ⟨e', hid, hsz, hlen⟩ := vecO_inv hcs
    dsimp only at hd1
    split at hd1
    · rename_i hcc
      obtain ⟨rfl, rfl, c1, c2, c3⟩ := hcc
      obtain rfl := Option.some.inj hd1
      obtain ⟨_, u, n', hk, hle, heq⟩ := hr.vwn_inv
      obtain ⟨u2, n2, xs, g1, g2, g3, g4, g5⟩ := hst.vec hid
      rw [hk] at g1; cases g1
      have hmn : N = n' := by
        rw [hlen] at g4
        exact Nat.eq_of_mul_eq_mul_right hsz g4
      subst hmn
      obtain ⟨b, c, hu0, hvv, _, _⟩ := heq rfl
      have hub : u.ownBlock = some b := by rw [hu0]; rfl
      refine ⟨_, hrun b (off * j.size) m c hvv c1 (by omega), ?_⟩
      rw [← Nat.add_mul]
      exact .vptr ⟨u, N, hk, Nat.le_refl _, fun _ => hub⟩
    · cases hd1
  · obtain ⟨rows, hrows, hd1⟩ := bind_inv hd
    split at hd1
    · rename_i h0
      obtain ⟨r, hrow, rfl⟩ := map_inv hd1
      obtain ⟨b, off, c, hv2, hv3⟩ := (hr.slA hrows).sl_at hrow
      have hlt : n.toNat < rows.length := (List.getElem?_eq_some_iff.1 hrow).1
      exact ⟨_, hrun b off rows.length c hv2 h0 (by omega), .d hv3⟩
    · cases hd1

theorem ok_iap {t e : TypeId} {n : Nat} {j : TypeInfo} {p q : Operand} {x y : X} (ho : o.op = .indexAddr t p q) (hu : P.underlying t = some (.array n e)) (hj : P.info? e = some j) (hx : cX P 0 p = some x) (hy : cX P 0 q = some y)
    (h : (CI.iap n j.size x y).sem fr s = some (d, s')) : AOp LL P o fr s d s' := by
  have hp : p ∈ o.op.operands := by rw [ho]; simp [Op.operands]
  have hq : q ∈ o.op.operands := by rw [ho]; simp [Op.operands]
  obtain ⟨hc, rfl⟩ := ret_inv h
  obtain ⟨m, hm, hc⟩ := bind_inv hc
  obtain ⟨iv, hiv, hm⟩ := bind_inv hm
  obtain ⟨v, hv, hd⟩ := bind_inv hc
  refine AOp.pure fun B k a w hops hst => ?_
  obtain ⟨ik, hik⟩ := AV.num_sc hm
  have hi := (ev_ok hops hq hy hiv).sc_eq hik
  have key : ∃ y', 0 ≤ m ∧ m < n ∧ rdFad (m.toNat * j.size) v = some y' ∧ y' = d := by
    unfold rdIap at hd
    split at hd <;> first | (cases hd; done) | (split at hd <;> first | (cases hd; done) | (rename_i hcc; obtain rfl := Option.some.inj hd; exact ⟨_, hcc.1, hcc.2, rfl, rfl⟩))
  obtain ⟨_, h1, h2, hd', rfl⟩ := key
  obtain ⟨b, off, he, hr⟩ := fad_ok (ev_ok hops hp hx hv) hd'
  refine ⟨_, ?_, hr⟩
  unfold execOp; rw [ho]
  refine run_value ?_
  have hcond : 0 ≤ m ∧ m < (n : Int) := ⟨h1, h2⟩
  simp only [Instr.indexAt, he, hi, asIntOf, Sem.run_bind, Sem.run_pure, Result.andThen_ok, run_underlying hu, Instr.sureAddr, if_pos hcond, sizeOf, typeInfo, run_program, hj, Addr.add_mid]

/-- A part of a struct or of an array. -/
theorem part_ok {k : Cfg} {w : World} {us : List Value} {cs : List AV} {t : TypeId} {off : Nat} {n : Option Nat} {d : AV} (hr : RAs k w us cs) (hn : szOf P t = some n) (hd : pickM cs off n = some d) : ∃ v, (part t us.toArray off).run P w = .ok v w ∧ RA k w v d := by
  cases n with
  | none =>
    obtain ⟨u, hu1, hu2, hu3⟩ := hr.get hd
    refine ⟨u, ?_, hu3⟩
    obtain ⟨dd, i, hu2, hi, hnn⟩ := szOf_inv hn
    have hr : dd.isRow = false := by cases h : dd.isRow <;> simp [h] at hnn ⊢
    have hu1' : us.toArray[off]? = some u := by simpa using hu1
    simp only [part, Sem.run_bind, run_isAgg hu2, hr, Result.andThen_ok, Bool.false_eq_true, if_false, hu1', Sem.run_pure]
  | some m =>
    have hd1 : (if off + m ≤ cs.length then some (AV.agg ((cs.drop off).take m)) else none) = some d := hd
    split at hd1
    · obtain rfl := Option.some.inj hd1
      have h5 := (hr.drop off).take m
      refine ⟨.agg ((us.drop off).take m).toArray, ?_, .agg h5.1 h5.2.1 h5.2.2⟩
      obtain ⟨dd, h1, h2, h3⟩ := szOf_row hn
      cases hi : P.info? t with
      | none => simp [hi] at h3
      | some i =>
        simp [hi] at h3
        have hex : us.toArray.extract off (off + m) = ((us.drop off).take m).toArray := by
          apply Array.ext'; simp [List.take_drop]
        simp only [part, Sem.run_bind, run_isAgg h1, h2, Result.andThen_ok, if_true, sizeOf, typeInfo, run_program, hi, h3, Sem.run_pure, hex]
    · cases hd1

theorem ok_fld {t : TypeId} {p : Operand} {f : Nat} {fs : Array Field} {fd : Field} {n : Option Nat} {x : X} (ho : o.op = .field t p f) (hu : P.underlying t = some (.struct fs)) (hf : fs[f]? = some fd) (hn : szOf P fd.type = some n) (hx : cX P t p = some x)
    (h : (CI.fld fd.offset n x).sem fr s = some (d, s')) : AOp LL P o fr s d s' := by
  have hp : p ∈ o.op.operands := by rw [ho]; simp [Op.operands]
  obtain ⟨hc, rfl⟩ := ret_inv h
  obtain ⟨v, hv, hd0⟩ := bind_inv hc
  obtain ⟨cs, hcs, hd⟩ := bind_inv hd0
  refine AOp.pure fun B k a w hops hst => ?_
  obtain ⟨us, he, hr⟩ := (ev_ok hops hp hx hv).row hcs
  obtain ⟨u, h1, h2⟩ := part_ok (P := P) hr hn hd
  refine ⟨u, ?_, h2⟩
  unfold execOp; rw [ho]
  refine run_value ?_
  simp only [Instr.field, he, Sem.run_bind, run_underlying hu, Result.andThen_ok, hf, asAgg, Sem.run_pure, h1]

theorem ok_idx {t e : TypeId} {ln : Nat} {j : TypeInfo} {p q : Operand} {n : Option Nat} {x y : X} (ho : o.op = .index t p q) (hu : P.underlying t = some (.array ln e)) (hn : szOf P e = some n) (hj : P.info? e = some j) (hx : cX P t p = some x) (hy : cX P 0 q = some y)
    (h : (CI.idx ln j.size n x y).sem fr s = some (d, s')) : AOp LL P o fr s d s' := by
  have hp : p ∈ o.op.operands := by rw [ho]; simp [Op.operands]
  have hq : q ∈ o.op.operands := by rw [ho]; simp [Op.operands]
  obtain ⟨hc, rfl⟩ := ret_inv h
  obtain ⟨m, hm, hc⟩ := bind_inv hc
  obtain ⟨iv, hiv, hm⟩ := bind_inv hm
  obtain ⟨v, hv, hd0⟩ := bind_inv hc
  unfold rdIdx at hd0
  split at hd0
  · rename_i hcond
    obtain ⟨cs, hcs, hd⟩ := bind_inv hd0
    refine AOp.pure fun B k a w hops hst => ?_
    obtain ⟨ik, hik⟩ := AV.num_sc hm
    have hi := (ev_ok hops hq hy hiv).sc_eq hik
    obtain ⟨us, he, hr⟩ := (ev_ok hops hp hx hv).row hcs
    obtain ⟨u, h1, h2⟩ := part_ok (P := P) hr hn hd
    refine ⟨u, ?_, h2⟩
    unfold execOp; rw [ho]
    refine run_value ?_
    simp only [Instr.index, he, hi, asIntOf, Sem.run_bind, Sem.run_pure, Result.andThen_ok, run_underlying hu, if_pos hcond, sizeOf, typeInfo, run_program, hj, h1]
  · cases hd0

theorem ok_six {t : TypeId} {p q : Operand} {x y : X} (ho : o.op = .index t p q) (hu : P.underlying t = some .string) (hx : cX P t p = some x) (hy : cX P 0 q = some y) (h : (CI.six x y).sem fr s = some (d, s')) : AOp LL P o fr s d s' := by
  have hp : p ∈ o.op.operands := by rw [ho]; simp [Op.operands]
  have hq : q ∈ o.op.operands := by rw [ho]; simp [Op.operands]
  obtain ⟨hc, rfl⟩ := ret_inv h
  obtain ⟨b, hb, hc⟩ := bind_inv hc
  obtain ⟨v, hv, hb⟩ := bind_inv hb
  obtain ⟨m, hm, hd⟩ := bind_inv hc
  obtain ⟨iv, hiv, hm⟩ := bind_inv hm
  unfold rdSix at hd
  split at hd
  · rename_i hcond
    obtain ⟨c, hg, rfl⟩ := map_inv hd
    refine AOp.pure fun B k a w hops hst => ⟨_, ?_, .d (RD.sc _)⟩
    obtain ⟨ik, hik⟩ := AV.num_sc hm
    have hi := (ev_ok hops hq hy hiv).sc_eq hik
    have he := (ev_ok hops hp hx hv).sc_eq (AV.str_sc hb)
    unfold execOp; rw [ho]
    refine run_value ?_
    simp only [Instr.index, he, hi, asIntOf, Sem.run_bind, Sem.run_pure, Result.andThen_ok, run_underlying hu, if_pos hcond, hg]
  · cases hd

theorem ok_ext {p : Operand} {i : Nat} {x : X} (ho : o.op = .extract p i) (hx : cX P 0 p = some x) (h : (CI.ext x i).sem fr s = some (d, s')) : AOp LL P o fr s d s' := by
  have hp : p ∈ o.op.operands := by rw [ho]; simp [Op.operands]
  obtain ⟨hc, rfl⟩ := ret_inv h
  obtain ⟨v, hv, hd⟩ := bind_inv hc
  refine AOp.pure fun B k a w hops hst => ?_
  have hr := ev_ok hops hp hx hv
  have fin : ∀ (us : List Value) (u : Value), a.eval p = .tuple us.toArray → us[i]? = some u → (execOp a.eval o).run P w = .ok (.value u) w := fun us u h1 h2 => by
    unfold execOp; rw [ho]
    refine run_value ?_
    have h3 : us.toArray[i]? = some u := by simpa using h2
    simp [Instr.extract, h1, h2]
  unfold rdExt at hd
  split at hd
  · rename_i ds
    obtain ⟨e, he, rfl⟩ := map_inv hd
    have h1 := hr.d_inv
    generalize hu' : a.eval p = u at h1 fin
    cases h1 with
    | tup us ds h1 h2 =>
      have hi := (List.getElem?_eq_some_iff.1 he).1
      have hlt : i < us.length := by omega
      have hg : us[i]? = some us[i] := List.getElem?_eq_getElem hlt
      exact ⟨us[i], fin us _ rfl hg, .d (h2 i _ e hg he)⟩
  · rename_i cs
    obtain ⟨us, hvv, h1, h2⟩ := hr.tup_inv
    have hi := (List.getElem?_eq_some_iff.1 hd).1
    have hlt : i < us.length := by omega
    have hg : us[i]? = some us[i] := List.getElem?_eq_getElem hlt
    exact ⟨us[i], fin us _ hvv hg, h2 i _ d hg hd⟩
  · cases hd

theorem ok_bin {op : BinOp} {t t' : TypeId} {p q : Operand} {x y : X} (ho : o.op = .binOp op t p q t') (hx : cX P t p = some x) (hy : cX P t q = some y) (h : (CI.bin op x y).sem fr s = some (d, s')) : AOp LL P o fr s d s' := by
  have hp : p ∈ o.op.operands := by rw [ho]; simp [Op.operands]
  have hq : q ∈ o.op.operands := by rw [ho]; simp [Op.operands]
  obtain ⟨hc, rfl⟩ := ret_inv h
  obtain ⟨u, hu, hc⟩ := bind_inv hc
  obtain ⟨xv, hxv, hu⟩ := bind_inv hu
  obtain ⟨v, hv, hc⟩ := bind_inv hc
  obtain ⟨yv, hyv, hv⟩ := bind_inv hv
  obtain ⟨r, hr, rfl⟩ := map_inv hc
  refine AOp.pure fun B k a w hops hst => ⟨r, ?_, .d (RD.sc _)⟩
  unfold execOp; rw [ho]
  refine run_value ?_
  rw [(ev_ok hops hp hx hxv).sc_eq hu, (ev_ok hops hq hy hyv).sc_eq hv]
  exact run_binS w hr t p q

theorem scsA_eq {k : Cfg} {w : World} : ∀ {us : List Value} {cs : List AV} {vs : List Value}, RAs k w us cs → scsA cs = some vs → us = vs
  | [], [], vs, _, h => by simpa [scsA] using h
  | u :: us, [], vs, h, _ => by have := h.1; simp at this
  | [], c :: cs, vs, h, _ => by have := h.1; simp at this
  | u :: us, c :: cs, vs, h, hs => by
    unfold scsA at hs
    split at hs
    · rename_i e; cases e
    · rename_i v cs' e
      obtain ⟨rfl, rfl⟩ := List.cons.inj e
      obtain ⟨vs', h', rfl⟩ := Option.map_eq_some_iff.1 hs
      have h0 := (h.2.2 0 u (.d (.sc v)) rfl rfl).d_inv
      have hu : u = v := by cases h0; rfl
      have ht : RAs k w us cs := ⟨by have := h.1; simpa using this, fun x hx => h.2.1 x (by simp [hx]), fun i x y hx hy => h.2.2 (i + 1) x y hx hy⟩
      rw [hu, scsA_eq ht h']
    · cases hs
/-- A value of a type that can be compared, by its cells. -/
theorem RA.key_eq {k : Cfg} {w : World} {v : Value} {x : AV} {ag : Bool} {us : List Value} {t : TypeId} (h : RA k w v x) (hx : x.key ag = some us) (ht : ag = isAggT P t) : v = valC P t us ∧ v.cells.toList = us := by
  cases ag with
  | true =>
    have hx' : x.row.bind scsA = some us := hx
    obtain ⟨cs, hcs, hs⟩ := bind_inv hx'
    obtain ⟨us', rfl, hr⟩ := h.row hcs
    obtain rfl := scsA_eq hr hs
    refine ⟨?_, by simp [Value.cells]⟩
    unfold isAggT at ht
    unfold Bb.valC
    split at ht
    · rename_i hu; rw [hu]
    · rename_i hu; rw [hu]
    · cases ht
  | false =>
    have hx' : (x.sc?.bind fun u => if u.oneCell' then some [u] else none) = some us := hx
    obtain ⟨u, hu, h1⟩ := bind_inv hx'
    split at h1
    · rename_i hone
      obtain rfl := Option.some.inj h1
      obtain rfl := h.sc_eq hu
      have hv : v.cells = #[v] := by cases v <;> first | rfl | simp [Value.oneCell'] at hone
      refine ⟨?_, by rw [hv]⟩
      unfold isAggT at ht
      unfold Bb.valC
      split at ht
      · cases ht
      · cases ht
      · rename_i h1 h2
        split
        · rename_i fs hu; exact absurd hu (h1 fs)
        · rename_i n e hu; exact absurd hu (h2 n e)
        · rfl
    · cases h1
end
end Go.Bb
