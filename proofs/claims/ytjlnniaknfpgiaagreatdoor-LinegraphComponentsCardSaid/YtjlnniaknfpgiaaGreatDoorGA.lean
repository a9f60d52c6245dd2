/-
  Part GA of this claim's proof. Joined by merge.py from the texts of wip/tpl.
-/
import Derived.WalkKit
import Derived.WalkSpells
import Derived.WalkLawsBesides
import Derived.BigQuiet
import Derived.Deep.QuietTactic
import Derived.Lib.Hide
import Derived.Deep.MidRow
import Derived.Test.YtjlnniaknfpgiaaGreatDoorProg
import Derived.Deep.RegionHeld3
import Derived.Deep.RegionWith
import Derived.Deep.DrawnRows
import Derived.StillTailTactics
set_option linter.unusedVariables false
set_option linter.unusedSimpArgs false
set_option linter.unnecessarySimpa false
namespace Go.Proofs.Lg
open Go Go.RowKit

/-- A slice whose elements take one cell each lies in memory, and holds these values. -/
def SlAt (w : World) (v : Value) (xs : List Value) : Prop :=
  ∃ a c, v = .slice a xs.length c ∧ xs.length ≤ c ∧ c ≤ 9223372036854775807 ∧
    (xs ≠ [] → ∃ b off, a = some ⟨b, off, none⟩ ∧ ∀ i u, xs[i]? = some u → w.cell? ⟨b, off + i, none⟩ = some u)

theorem cell_lt {w : World} {p : Addr} {u : Value} (h : w.cell? p = some u) : p.block < w.heap.size := World.block_lt_of_cell? w p h

theorem below_cell {w w' : World} (h : Below w.heap.size w w') {p : Addr} {u : Value} (hc : w.cell? p = some u) : w'.cell? p = some u :=
  (h.cell (cell_lt hc)).trans hc

theorem bdrewN {B : Nat} {a w : World} (h : Below B a w) (q : Nat) : Below B a (w.drewN q) := ⟨h.os, h.tape, h.output, h.size, h.block⟩

theorem alloc_cell {w : World} {p : Addr} {u : Value} (h : w.cell? p = some u) (o : Obj) : (w.alloc o).cell? p = some u :=
  below_cell ((Below.refl _ _).alloc (Nat.le_refl _) o) h

theorem SlAt.below {w w' : World} {v : Value} {xs : List Value} (h : SlAt w v xs) (hb : Below w.heap.size w w') : SlAt w' v xs := by
  obtain ⟨a, c, hv, h1, h2, h3⟩ := h
  refine ⟨a, c, hv, h1, h2, fun hne => ?_⟩
  obtain ⟨b, off, ha, hc⟩ := h3 hne
  exact ⟨b, off, ha, fun i u hu => below_cell hb (hc i u hu)⟩

theorem SlAt.nil (w : World) : SlAt w (.slice none 0 0) [] := ⟨none, 0, rfl, Nat.le_refl _, by omega, fun h => absurd rfl h⟩

theorem SlAt.le {w : World} {v : Value} {xs : List Value} (h : SlAt w v xs) : xs.length ≤ 9223372036854775807 := by
  obtain ⟨a, c, _, h1, h2, _⟩ := h; omega

theorem SlAt.mk {w : World} {b off n c : Nat} {xs : List Value} (hn : xs.length = n) (h1 : n ≤ c) (h2 : c ≤ 9223372036854775807) (h : ∀ i u, xs[i]? = some u → w.cell? ⟨b, off + i, none⟩ = some u) :
    SlAt w (.slice (some ⟨b, off, none⟩) n c) xs := by
  subst hn; exact ⟨_, c, rfl, h1, h2, fun _ => ⟨b, off, rfl, h⟩⟩

theorem SlAt.drew {w : World} {v : Value} {xs : List Value} (h : SlAt w v xs) : SlAt w.drew v xs := by
  obtain ⟨a, c, hv, h1, h2, h3⟩ := h
  exact ⟨a, c, hv, h1, h2, h3⟩

/-- A block of the call's own that has just been made. -/
theorem SlAt.new (w : World) (xs : List Value) (t B : Nat) (hB : w.heap.size = B) (n : Nat) (hn : xs.length = n) (hm : n ≤ 9223372036854775807) :
    SlAt (w.alloc (.cells xs.toArray t)) (.slice (some ⟨B, 0, none⟩) n n) xs := by
  subst hB
  refine SlAt.mk hn (Nat.le_refl _) hm fun i u hu => ?_
  simp [go_sem, hu]

/-- The order of lists of bytes (numbers) of one length. -/
def lexCmp : List Int → List Int → Int
  | [], [] => 0
  | [], _ :: _ => -1
  | _ :: _, [] => 1
  | a :: s, b :: t => if a < b then -1 else if b < a then 1 else lexCmp s t

def cmpInt (a b : Int) : Int := if a < b then -1 else if b < a then 1 else 0

/-- The order of identities. -/
def cmpId (a : List Int) (n : Int) (b : List Int) (m : Int) : Int := if lexCmp a b = 0 then cmpInt n m else lexCmp a b

/-- The cells of an identity. -/
def idCells (d : List Int) (n : Int) : Array Value := (d.map (Value.int .u8) ++ [Value.int .i64 n]).toArray

theorem idCells_size {d : List Int} (n : Int) (h : d.length = 32) : (idCells d n).size = 33 := by simp [idCells, h]
theorem idCells_last {d : List Int} (n : Int) (h : d.length = 32) : (idCells d n)[32]? = some (Value.int .i64 n) := by
  simp [idCells, h]
theorem idCells_byte {d : List Int} (n : Int) (i : Nat) (x : Int) (h : d[i]? = some x) : (idCells d n)[i]? = some (Value.int .u8 x) := by
  obtain ⟨hi, h⟩ := List.getElem?_eq_some_iff.1 h
  simp [idCells, List.getElem?_append, hi, h]

/-- Numbers that are bytes. -/
def Bytes (d : List Int) : Prop := ∀ x ∈ d, 0 ≤ x ∧ x < 256

def toBA (d : List Int) : ByteArray := ⟨(d.map fun x => x.toNat.toUInt8).toArray⟩

theorem run_loadBytes {P : Program} (w : World) (b : Nat) : ∀ (d : List Int) (off : Nat) (acc : ByteArray), (∀ i x, d[i]? = some x → w.cell? ⟨b, off + i, none⟩ = some (Value.int .u8 x)) →
    (Extern.Bytes.loadBytes ⟨b, off, none⟩ d.length acc).run P w = .ok ⟨acc.data ++ (toBA d).data⟩ w := by
  intro d
  induction d with
  | nil => intro off acc _; simp [Extern.Bytes.loadBytes, toBA]
  | cons x d ih =>
    intro off acc h
    have h0 : w.cell? ⟨b, off, none⟩ = some (Value.int .u8 x) := by simpa using h 0 x rfl
    have hadd : (⟨b, off, none⟩ : Addr).add 1 = ⟨b, off + 1, none⟩ := by unfold Addr.add; simp
    have := ih (off + 1) (acc.push x.toNat.toUInt8) (fun i y hy => by have := h (i + 1) y (by simpa using hy); rwa [show off + (i + 1) = off + 1 + i by omega] at this)
    simp only [List.length_cons, Extern.Bytes.loadBytes]
    simp only [ByteArray.push, Nat.toUInt8_eq] at this
    simp [go_sem, h0, hadd, ByteArray.push, this]
    simp [toBA]

theorem lexCmp_cases : ∀ (x y : List Int), x.length = y.length → (x = y ∧ lexCmp x y = 0) ∨ ∃ (k : Nat) (a b : Int), x[k]? = some a ∧ y[k]? = some b ∧ a ≠ b ∧ (∀ i, i < k → x[i]? = y[i]?) ∧ lexCmp x y = if a < b then -1 else 1
  | [], [], _ => .inl ⟨rfl, rfl⟩
  | a :: s, b :: t, h => by
    by_cases hab : a = b
    · subst hab
      rcases lexCmp_cases s t (by simpa using h) with ⟨h1, h2⟩ | ⟨k, c, d, h1, h2, h3, h4, h5⟩
      · exact .inl ⟨by rw [h1], by simp [lexCmp, h2]⟩
      · refine .inr ⟨k + 1, c, d, by simpa using h1, by simpa using h2, h3, fun i hi => ?_, by simp [lexCmp, h5]⟩
        cases i with
        | zero => rfl
        | succ i => simpa using h4 i (by omega)
    · refine .inr ⟨0, a, b, rfl, rfl, hab, fun i hi => by omega, ?_⟩
      simp only [lexCmp]
      by_cases h1 : a < b
      · simp [h1]
      · simp [h1, show b < a by omega]
  | [], _ :: _, h => by simp at h
  | _ :: _, [], h => by simp at h

theorem toBA_get (d : List Int) (i : Nat) (x : Int) (h : d[i]? = some x) : (toBA d)[i]! = x.toNat.toUInt8 := by
  obtain ⟨hi, h⟩ := List.getElem?_eq_some_iff.1 h
  have : i < (toBA d).size := by simpa [toBA, ByteArray.size] using hi
  rw [getElem!_pos (toBA d) i this]
  simp [toBA, ByteArray.getElem_eq_getElem_data, h]
theorem toBA_size (d : List Int) : (toBA d).size = d.length := by simp [toBA, ByteArray.size]

theorem u8_inj {a b : Int} (ha : 0 ≤ a ∧ a < 256) (hb : 0 ≤ b ∧ b < 256) : a.toNat.toUInt8 = b.toNat.toUInt8 ↔ a = b := by
  rw [← UInt8.toNat_inj]; simp; omega
theorem u8_lt {a b : Int} (ha : 0 ≤ a ∧ a < 256) (hb : 0 ≤ b ∧ b < 256) : a.toNat.toUInt8 < b.toNat.toUInt8 ↔ a < b := by
  rw [UInt8.lt_iff_toNat_lt]; simp; omega

theorem cmp_find (x y : List Int) (hx : Bytes x) (hy : Bytes y) (hl : x.length = y.length) : Extern.BytealgCompare.cmp (toBA x) (toBA y) = lexCmp x y := by
  unfold Extern.BytealgCompare.cmp
  rcases lexCmp_cases x y hl with ⟨rfl, h2⟩ | ⟨k, a, b, h1, h2, h3, h4, h5⟩
  · rw [h2]
    have : (List.range (min (toBA x).size (toBA x).size)).find? (fun i => (toBA x)[i]! != (toBA x)[i]!) = none := by simp
    rw [this]; simp
  · have ha := hx a (List.mem_of_getElem? h1)
    have hb := hy b (List.mem_of_getElem? h2)
    have hk : k < x.length := (List.getElem?_eq_some_iff.1 h1).1
    have : (List.range (min (toBA x).size (toBA y).size)).find? (fun i => (toBA x)[i]! != (toBA y)[i]!) = some k := by
      rw [List.find?_range_eq_some]
      refine ⟨?_, ?_, ?_⟩
      · rw [toBA_get _ _ _ h1, toBA_get _ _ _ h2]; simp [u8_inj ha hb, h3]
      · simp [toBA_size]; omega
      · intro j hj
        have hjl : j < x.length := by omega
        have e1 : x[j]? = some x[j] := List.getElem?_eq_getElem hjl
        have e2 := (h4 j hj).symm.trans e1
        rw [toBA_get _ _ _ e1, toBA_get _ _ _ e2]; simp
    rw [this, h5]
    simp only [toBA_get _ _ _ h1, toBA_get _ _ _ h2]
    simp [u8_lt ha hb]

/-- A slice whose elements take several cells each. -/
def SlN (w : World) (v : Value) (size : Nat) (xs : List (List Value)) : Prop :=
  ∃ a c, v = .slice a xs.length c ∧ xs.length ≤ c ∧ c ≤ 9223372036854775807 ∧
    (xs ≠ [] → ∃ b off, a = some ⟨b, off, none⟩ ∧ ∀ i u, xs[i]? = some u → w.rangeAt b (off + i * size) u)

theorem rangeAt_below {w w' : World} (hb : Below w.heap.size w w') {b o : Nat} {u : List Value} (h : w.rangeAt b o u) : w'.rangeAt b o u :=
  fun j v hv => below_cell hb (h j v hv)

theorem SlN.below {w w' : World} {v : Value} {size : Nat} {xs : List (List Value)} (h : SlN w v size xs) (hb : Below w.heap.size w w') : SlN w' v size xs := by
  obtain ⟨a, c, hv, h1, h2, h3⟩ := h
  refine ⟨a, c, hv, h1, h2, fun hne => ?_⟩
  obtain ⟨b, off, ha, hc⟩ := h3 hne
  exact ⟨b, off, ha, fun i u hu => rangeAt_below hb (hc i u hu)⟩

/-- A line of a graph. -/
structure Vtx where
  id : List Int
  n : Int
  text : ByteArray
  living : Bool

def Vtx.cells (v : Vtx) : List Value := v.id.map (Value.int .u8) ++ [Value.int .i64 v.n, Value.string v.text, Value.bool v.living]
def Vtx.ok (v : Vtx) : Prop := v.id.length = 32 ∧ Bytes v.id ∧ -9223372036854775808 ≤ v.n ∧ v.n ≤ 9223372036854775807

/-- An edge. -/
def edgeCells (e : Int × Int) : List Value := [Value.int .i64 e.1, Value.int .i64 e.2]
def I64 (n : Int) : Prop := -9223372036854775808 ≤ n ∧ n ≤ 9223372036854775807

/-- A graph. -/
structure Gr where
  lines : List Vtx
  edges : List (Int × Int)

/-- The graph whose two slices these are lies in memory; it has few lines and edges. -/
structure GrAt (w : World) (vl ve : Value) (g : Gr) : Prop where
  lines : SlN w vl 35 (g.lines.map Vtx.cells)
  edges : SlN w ve 2 (g.edges.map edgeCells)
  okl : ∀ x ∈ g.lines, x.ok
  oke : ∀ e ∈ g.edges, I64 e.1 ∧ I64 e.2
  few : g.lines.length ≤ 1000000
  fewe : g.edges.length ≤ 1000000

theorem GrAt.below {w w' : World} {vl ve : Value} {g : Gr} (h : GrAt w vl ve g) (hb : Below w.heap.size w w') : GrAt w' vl ve g :=
  ⟨h.lines.below hb, h.edges.below hb, h.okl, h.oke, h.few, h.fewe⟩

theorem Vtx.id_range {w : World} {b o : Nat} {v : Vtx} (hv : v.id.length = 32) (h : w.rangeAt b o v.cells) : w.rangeAt b o (idCells v.id v.n).toList := by
  intro j u hu
  refine h j u ?_
  have hj : j < (idCells v.id v.n).toList.length := (List.getElem?_eq_some_iff.1 hu).1
  simp only [Vtx.cells, idCells] at *
  simp only [List.length_append, List.length_map, hv] at hj
  simp only [List.length_cons, List.length_nil] at hj
  rw [List.getElem?_append] at hu ⊢
  simp only [List.length_map, hv] at hu ⊢
  by_cases h32 : j < 32
  · simpa [h32] using hu
  · obtain rfl : j = 32 := by omega
    simpa using hu

/-- The worlds of a class, as a type: so that the walk's simp takes a fact of all of them for a rule. -/
structure Cls (C : World → Prop) where
  w : World
  h : C w

/-- A region that draws its order, whose operations read, and whose callees lead from the class into the class, is walked once, in the order of the text. -/
theorem wp_region_cls {P : Program} {id : Nat} {Q : Exit → Act → World → Prop} {a : Act} {w : World} {l : List Oper} (C : World → Prop) (hm : P.follows .mixedOrders = true) (hB : Region.lexB .any l.toArray = true) (hC : C w.drew)
    (h : wpQuiet P l.toArray (fun w' => ∃ p : Cls C, w' = p.w) (fun a' => ∀ w', (∃ p : Cls C, w' = p.w) → Q .normal a' w') l a) : (Code.region id l.toArray true).wp P Q a w :=
  wp_region_quiet (C := fun w' => ∃ p : Cls C, w' = p.w) hm hB ⟨⟨_, hC⟩, rfl⟩ (by simpa using h)

/-- What lay in W lies as it lay. -/
def Keep (W w' : World) : Prop := Below W.heap.size W w'

theorem Keep.refl (W : World) : Keep W W := Below.refl _ _
theorem Keep.drew (W : World) : Keep W W.drew := (Below.refl _ _).drew
theorem Keep.trans {a b c : World} (h : Keep a b) (k : Keep b c) : Keep a c := Below.trans h (Below.mono k (Below.size h))

theorem Calls.cls {P : Program} {f : FuncId} {args : Array Value} {W : World} {p : Cls (Keep W)} {v : Value}
    (h : Calls P f args p.w fun e w' => e = .returned v ∧ Below p.w.heap.size p.w w') : Calls P f args p.w fun e w'' => e = .returned v ∧ ∃ q : Cls (Keep W), w'' = q.w :=
  h.mono fun _ w' ⟨he, hb⟩ => ⟨he, ⟨w', p.h.trans hb⟩, rfl⟩

/-- A struct of many cells is read in such a region. -/
theorem wpQuiet_load_mid {P : Program} {ops : Array Oper} {C : World → Prop} {Q : Act → Prop} {o : Oper} {rest : List Oper} {a : Act} (hgd : o.guard = none) (ty : TypeId) (x : Operand) (ho : o.op = .load ty x)
    (b off : Nat) (hx : a.eval x = .pointer (some ⟨b, off, none⟩)) (cs : List Value) (d : TypeDesc) (hc : ∀ p : Cls C, p.w.rangeAt b off cs)
    (hu : P.underlying ty = some d) (hd : d.isRow = true) (hi : (P.info? ty).map (·.size) = some cs.length)
    (h : wpQuiet P ops (fun w' => ∃ p : Cls C, w' = p.w) Q rest (a.put o.dst (.agg cs.toArray))) : wpQuiet P ops (fun w' => ∃ p : Cls C, w' = p.w) Q (o :: rest) a := by
  refine wpQuiet_step (fun K hK => ?_)
  rw [if_pos (by simp [Region.wanted, hgd])]
  refine ⟨.agg cs.toArray, ?_, hK _ h⟩
  rintro _ ⟨p, rfl⟩
  unfold Oper.quietAt execOp
  simp only [ho, hx, Instr.loadAt, Instr.sureAddr, Sem.run_bind, Sem.run_pure, Result.andThen_ok, run_loadVar_mid p.w b off ty cs d (hc p) hu hd hi, Oper.quietUpon, and_self]
end Go.Proofs.Lg

namespace Go.Proofs.Lg
open Go Go.RowKit
attribute [local go_sem ↓] Go.wp_at_zero Go.wp_at_succ

theorem run_bytealgCompare (w : World) (b b' off off' c c' : Nat) (x y : List Int) (hx : Bytes x) (hy : Bytes y) (hl : x.length = y.length)
    (h1 : ∀ i z, x[i]? = some z → w.cell? ⟨b, off + i, none⟩ = some (Value.int .u8 z)) (h2 : ∀ i z, y[i]? = some z → w.cell? ⟨b', off' + i, none⟩ = some (Value.int .u8 z)) :
    (Extern.BytealgCompare.compare #[.slice (some ⟨b, off, none⟩) x.length c, .slice (some ⟨b', off', none⟩) y.length c']).run Tryz.prog w = .ok (.int .i64 (lexCmp x y)) w := by
  have e1 := run_loadBytes (P := Tryz.prog) w b x off .empty h1
  have e2 := run_loadBytes (P := Tryz.prog) w b' y off' .empty h2
  have hc : ∀ a b : Value, Extern.BytealgCompare.compare #[a, b] = (Extern.Bytes.bytesOf a >>= fun x => Extern.Bytes.bytesOf b >>= fun y => pure (goInt (Extern.BytealgCompare.cmp x y))) := fun _ _ => rfl
  rw [hc]
  simp only [Extern.Bytes.bytesOf, Sem.run_bind, e1, e2, Result.andThen_ok, Sem.run_pure]
  have : ∀ d : List Int, (⟨ByteArray.empty.data ++ (toBA d).data⟩ : ByteArray) = toBA d := fun d => by cases h : toBA d; simp
  rw [this, this, cmp_find x y hx hy hl]
  rfl

set_option maxHeartbeats 400000 in
set_option maxRecDepth 100000 in
theorem bytesCompare_any (w : World) (b b' off off' n c c' : Nat) (x y : List Int) (hx : Bytes x) (hy : Bytes y) (hn : x.length = n) (hn' : y.length = n)
    (h1 : ∀ i z, x[i]? = some z → w.cell? ⟨b, off + i, none⟩ = some (Value.int .u8 z)) (h2 : ∀ i z, y[i]? = some z → w.cell? ⟨b', off' + i, none⟩ = some (Value.int .u8 z)) :
    Calls Tryz.prog 51 #[.slice (some ⟨b, off, none⟩) n c, .slice (some ⟨b', off', none⟩) n c'] w fun e w' => e = .returned (.int .i64 (lexCmp x y)) ∧ w = w' := by
  have e := run_bytealgCompare w b b' off off' c c' x y hx hy (hn.trans hn'.symm) h1 h2
  rw [hn, hn'] at e
  have E := Lib.hid e
  clear e h1 h2 hn hn'
  go_enter Tryz.func51, Tryz.ntmps51
  go_wp2
  rw [run_callFunc_extern Tryz.func83 (by kernel_rfl) (by kernel_rfl) (by kernel_rfl) (e := Extern.BytealgCompare.compare) (by kernel_rfl), E.out]
  simp only [Result.andThen]
  rw [Oper.upon_value]
  go_wp2
  go_ret
  exact ⟨rfl, rfl⟩

set_option maxHeartbeats 400000 in
theorem isNaN_any (a : Int) (w : World) : Calls Tryz.prog 84 #[.int .i64 a] w fun e w' => e = .returned (.bool false) ∧ w = w' := by
  go_enter Tryz.func84, Tryz.ntmps84
  go_wp2
  go_ret
  simp

set_option maxHeartbeats 400000 in
theorem cmpCompare_any (a b : Int) (w : World) : Calls Tryz.prog 52 #[.int .i64 a, .int .i64 b] w fun e w' => e = .returned (.int .i64 (cmpInt a b)) ∧ w = w' := by
  unfold cmpInt
  by_cases h1 : a < b
  · go_enter Tryz.func52, Tryz.ntmps52
    go_wp2_with (go_at_call 84; refine (isNaN_any _ _).mono ?_; rintro e w' ⟨rfl, rfl⟩)
    go_ret
    simp
  · by_cases h2 : b < a
    · go_enter Tryz.func52, Tryz.ntmps52
      go_wp2_with (go_at_call 84; refine (isNaN_any _ _).mono ?_; rintro e w' ⟨rfl, rfl⟩)
      go_ret
      simp
    · go_enter Tryz.func52, Tryz.ntmps52
      go_wp2_with (go_at_call 84; refine (isNaN_any _ _).mono ?_; rintro e w' ⟨rfl, rfl⟩)
      go_ret
      simp

theorem two_blocks_cell (w : World) (A B : Array Value) (t u q : Nat) (i : Nat) (v : Value) :
    (A[i]? = some v → (((w.alloc (.cells A t)).alloc (.cells B u)).drewN q).cell? ⟨w.heap.size, 0 + i, none⟩ = some v) ∧ (B[i]? = some v → (((w.alloc (.cells A t)).alloc (.cells B u)).drewN q).cell? ⟨w.heap.size + 1, 0 + i, none⟩ = some v) := by
  constructor
  · intro h
    simp [go_sem, h]
  · intro h
    have e : w.heap.size + 1 = (w.alloc (.cells A t)).heap.size := by simp
    rw [e]
    simp [go_sem, h]

set_option maxHeartbeats 400000 in
set_option maxRecDepth 100000 in
theorem Compare_any (x y : List Int) (n m : Int) (hx : Bytes x) (hy : Bytes y) (hlx : x.length = 32) (hly : y.length = 32) (w : World) :
    Calls Tryz.prog 24 #[.agg (idCells x n), .agg (idCells y m)] w fun e w' => e = .returned (.int .i64 (cmpId x n y m)) ∧ Below w.heap.size w w' := by
  have sx := idCells_size n hlx
  have sy := idCells_size m hly
  have lx : ∀ h, (idCells x n)[32]'h = Value.int .i64 n := fun h => (Array.getElem?_eq_some_iff.1 (idCells_last n hlx)).2
  have ly : ∀ h, (idCells y m)[32]'h = Value.int .i64 m := fun h => (Array.getElem?_eq_some_iff.1 (idCells_last m hly)).2
  unfold cmpId
  by_cases hl : lexCmp x y = 0
  · have hl1 : (lexCmp x y == 0) = true := by simp [hl]
    have hl2 : (lexCmp x y != 0) = false := by simp [hl]
    rw [if_pos hl]
    clear hl
    go_enter Tryz.func24, Tryz.ntmps24
    go_wp2
    go_quiet ((go_at_call 51; refine Calls.quiet_of_same ((bytesCompare_any _ _ _ _ _ 32 _ _ x y hx hy hlx hly ?_ ?_).mono fun _ _ h => ⟨h.1, h.2.symm⟩); (intro i z hz; exact (two_blocks_cell _ _ _ _ _ _ i _).1 (idCells_byte n i z hz)); (intro i z hz; exact (two_blocks_cell _ _ _ _ _ _ i _).2 (idCells_byte m i z hz))))
    go_wp2_with (go_at_call 52; refine (cmpCompare_any _ _ _).mono ?_; rintro e w' ⟨rfl, rfl⟩)
    go_ret
    exact ⟨rfl, bdrewN (((Below.refl _ _).alloc (Nat.le_refl _) _).alloc (by simp) _) _⟩
  · have hl1 : (lexCmp x y == 0) = false := by simp [hl]
    have hl2 : (lexCmp x y != 0) = true := by simp [hl]
    rw [if_neg hl]
    clear hl
    go_enter Tryz.func24, Tryz.ntmps24
    go_wp2
    go_quiet ((go_at_call 51; refine Calls.quiet_of_same ((bytesCompare_any _ _ _ _ _ 32 _ _ x y hx hy hlx hly ?_ ?_).mono fun _ _ h => ⟨h.1, h.2.symm⟩); (intro i z hz; exact (two_blocks_cell _ _ _ _ _ _ i _).1 (idCells_byte n i z hz)); (intro i z hz; exact (two_blocks_cell _ _ _ _ _ _ i _).2 (idCells_byte m i z hz))))
    go_wp2
    go_ret
    exact ⟨rfl, bdrewN (((Below.refl _ _).alloc (Nat.le_refl _) _).alloc (by simp) _) _⟩
end Go.Proofs.Lg

namespace Go.Proofs.Lg
open Go Go.RowKit
attribute [local go_sem ↓] Go.wp_at_zero Go.wp_at_succ

def ints (l : List Int) : List Value := l.map (Value.int .i64)
theorem ints_length (l : List Int) : (ints l).length = l.length := by simp [ints]
theorem ints_get (l : List Int) (k : Nat) (h : k < l.length) : (ints l)[k]? = some (Value.int .i64 l[k]) := by simp [ints, h]

theorem ret_int {k : IntKind} {a b : Int} (h : a = b) : Ending.returned (.int k a) = .returned (.int k b) := by rw [h]

def orInt : List Int → Int
  | [] => 0
  | x :: l => if x = 0 then orInt l else x

set_option maxHeartbeats 400000 in
theorem cmpOr_any (l : List Int) (v : Value) (w : World) (h : SlAt w v (ints l)) :
    Calls Tryz.prog 53 #[v] w fun e w' => e = .returned (.int .i64 (orInt l)) ∧ w = w' := by
  obtain ⟨a, c, rfl, h1, h2, h3⟩ := h
  rw [ints_length] at h1 ⊢
  go_enter Tryz.func53, Tryz.ntmps53
  go_wp2
  go_loop [8] (fun i => ∃ k : Nat, k ≤ l.length ∧ i = .int .i64 k ∧ orInt l = orInt (l.drop k)) (fun i => l.length - (intOf i).toNat)
  case atStart => exact ⟨0, Nat.zero_le _, rfl, rfl⟩
  case round =>
    obtain ⟨k, hk, rfl, hor⟩ := hrel
    have HO := Lib.hid hor
    clear hor
    have hle : l.length ≤ 9223372036854775807 := by omega
    by_cases hlt : k < l.length
    · obtain ⟨b, off, rfl, hc⟩ := h3 (by intro e; rw [← ints_length, e] at hlt; simp at hlt)
      have hcell := hc k _ (ints_get l k hlt)
      clear hc h3
      have hd := List.drop_eq_getElem_cons hlt
      generalize l[k] = x at hcell hd
      have HD := Lib.hid hd
      clear hd
      by_cases hx : x = 0
      · subst hx
        go_wp2
        go_round
        case rel => exact ⟨k + 1, by omega, by go_num, by rw [HO.out, HD.out]; simp [orInt]⟩
        case measure => simp [intOf]; omega
      · have hx1 : (x != 0) = true := by simp [hx]
        have hx2 : (x == 0) = false := by simp [hx]
        have HX := Lib.hid hx
        clear hx
        go_wp2
        go_ret
        exact ⟨ret_int (by rw [HO.out, HD.out]; simp [orInt, HX.out]), rfl⟩
    · have HK := Lib.hid (show k = l.length by omega)
      clear h3
      go_wp2
      go_ret
      exact ⟨ret_int (by rw [HO.out, HK.out]; simp [orInt]), rfl⟩

set_option maxHeartbeats 400000 in
theorem compareEdges_any (a b c d : Int) (w : World) :
    Calls Tryz.prog 26 #[.agg #[.int .i64 a, .int .i64 b], .agg #[.int .i64 c, .int .i64 d]] w fun e w' => e = .returned (.int .i64 (orInt [cmpInt a c, cmpInt b d])) ∧ Below w.heap.size w w' := by
  go_enter Tryz.func26, Tryz.ntmps26
  go_wp2
  go_region_held3 (fun w' => w'.cell? ⟨w.heap.size, 0, none⟩ = some (.int .i64 a) ∧ w'.cell? ⟨w.heap.size, 1, none⟩ = some (.int .i64 b) ∧ w'.cell? ⟨w.heap.size + 1, 0, none⟩ = some (.int .i64 c) ∧ w'.cell? ⟨w.heap.size + 1, 1, none⟩ = some (.int .i64 d)) (go_keep)
    (first | (go_at_call_of 52 (Value.int .i64 a); refine (cmpCompare_any a c _).mono ?_; rintro e w' ⟨rfl, rfl⟩) | (go_at_call_of 52 (Value.int .i64 b); refine (cmpCompare_any b d _).mono ?_; rintro e w' ⟨rfl, rfl⟩) | (go_at_call 53; refine (cmpOr_any [cmpInt a c, cmpInt b d] _ _ ?_).mono ?_; (exact (SlAt.new _ [Value.int .i64 (cmpInt a c), Value.int .i64 (cmpInt b d)] _ _ (by simp) 2 rfl (by omega)).drew); rintro e w' ⟨rfl, rfl⟩))
  go_wp2
  go_ret
  exact ⟨rfl, (((Below.refl _ _).alloc (Nat.le_refl _) _).alloc (by simp) _ |>.alloc (by simp; omega) _).drew⟩
end Go.Proofs.Lg
