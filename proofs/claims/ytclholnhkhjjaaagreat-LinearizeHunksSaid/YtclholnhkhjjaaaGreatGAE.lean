/-
  Part GAE of this claim's proof. Joined by merge.py from the texts of wip/tpl.
-/
import Derived.Test.YtclholnhkhjjaaaGreatBb5
import Derived.DeepKeys
set_option linter.unusedVariables false
set_option linter.unusedSimpArgs false
set_option linter.unnecessarySimpa false
namespace Go.Bb
open Go Go.RowKit Go.Ab
def X.ev (fr : Fr) : X → Option AV
 | .t n => look fr n
 | .c x => some x
def evA (fr : Fr) : List X → Option (List AV)
 | [] => some []
 | x :: l => (x.ev fr).bind fun v => (evA fr l).map (v :: ·)
def binS : BinOp → Value → Value → Option Value
 | .add, .int k a, .int k' b => if k = k' then some (.int k (k.wrap (a + b))) else none
 | .sub, .int k a, .int k' b => if k = k' then some (.int k (k.wrap (a - b))) else none
 | .mul, .int k a, .int k' b => if k = k' then some (.int k (k.wrap (a * b))) else none
 | .eql, .int k a, .int k' b => if k = k' then some (.bool (a == b)) else none
 | .neq, .int k a, .int k' b => if k = k' then some (.bool (a != b)) else none
 | .lss, .int k a, .int k' b => if k = k' then some (.bool (decide (a < b))) else none
 | .leq, .int k a, .int k' b => if k = k' then some (.bool (decide (a ≤ b))) else none
 | .gtr, .int k a, .int k' b => if k = k' then some (.bool (decide (a > b))) else none
 | .geq, .int k a, .int k' b => if k = k' then some (.bool (decide (a ≥ b))) else none
 | .and, .int k a, .int k' b => if k = k' then some (.int k (k.wrap (BitVec.ofInt k.bits a &&& BitVec.ofInt k.bits b).toNat)) else none
 | .or, .int k a, .int k' b => if k = k' then some (.int k (k.wrap (BitVec.ofInt k.bits a ||| BitVec.ofInt k.bits b).toNat)) else none
 | .xor, .int k a, .int k' b => if k = k' then some (.int k (k.wrap (BitVec.ofInt k.bits a ^^^ BitVec.ofInt k.bits b).toNat)) else none
 | .andNot, .int k a, .int k' b => if k = k' then some (.int k (k.wrap (BitVec.ofInt k.bits a &&& ~~~BitVec.ofInt k.bits b).toNat)) else none
 | .quo, .int k a, .int k' b => if k = k' ∧ b ≠ 0 then some (.int k (k.wrap (a.tdiv b))) else none
 | .rem, .int k a, .int k' b => if k = k' ∧ b ≠ 0 then some (.int k (a.tmod b)) else none
 | .shl, .int k a, .int _ b => if 0 ≤ b then some (.int k (k.wrap (a * 2 ^ min b.toNat k.bits))) else none
 | .shr, .int k a, .int _ b => if 0 ≤ b then some (.int k (a.fdiv (2 ^ min b.toNat k.bits))) else none
 | .eql, .string a, .string b => some (.bool (a.toList == b.toList))
 | .lss, .string a, .string b => some (.bool (Op.bytesLess a.toList b.toList))
 | .leq, .string a, .string b => some (.bool (Op.bytesLess a.toList b.toList || a.toList == b.toList))
 | .gtr, .string a, .string b => some (.bool !(Op.bytesLess a.toList b.toList || a.toList == b.toList))
 | .geq, .string a, .string b => some (.bool !(Op.bytesLess a.toList b.toList))
 | .neq, .string a, .string b => some (.bool !(a.toList == b.toList))
 | .add, .string a, .string b => if ((a.size + b.size : Nat) : Int) ≤ 9223372036854775807 then some (.string (a ++ b)) else none
 | _, _, _ => none
def eqKs : List SK → List Value → List Value → Option Bool
 | [], [], [] => some true
 | .i :: ks, .int k a :: us, .int k' b :: vs => if k = k' then (eqKs ks us vs).map ((a == b) && ·) else none
 | .s :: ks, .string a :: us, .string b :: vs => (eqKs ks us vs).map ((a.toList == b.toList) && ·)
 | .b :: ks, .bool a :: us, .bool b :: vs => (eqKs ks us vs).map ((a == b) && ·)
 | _, _, _ => none
def scsA : List AV → Option (List Value)
 | [] => some []
 | .d (.sc v) :: cs => (scsA cs).map (v :: ·)
 | _ => none
def AV.sc? : AV → Option Value
 | .d (.sc v) => some v
 | _ => none
def AV.key (ag : Bool) (x : AV) : Option (List Value) := if ag then x.row.bind scsA else x.sc?.bind fun u => if u.oneCell' then some [u] else none
def AV.keyK (ag : Bool) (ks : List SK) (x : AV) : Option (List Value) := (x.key ag).bind fun us => if us.length = ks.length then some us else none
def AV.bool? : AV → Option Bool
 | .d (.sc (.bool b)) => some b
 | _ => none
def AV.int? : AV → Option Int
 | .d (.sc (.int .i64 n)) => some n
 | _ => none
def AV.num? : AV → Option Int
 | .d (.sc (.int _ n)) => some n
 | _ => none
def AV.str? : AV → Option ByteArray
 | .d (.sc (.string b)) => some b
 | _ => none
def slA (sz : Nat) : AV → Option (List (List D))
 | .d (.sl s rows) => if s = sz then some rows else none
 | .tsl _ s rows => if s = sz then some rows else none
 | .nil s => if s = sz then some [] else none
 | .emp s => if s = sz then some [] else none
 | _ => none
def boundA (fr : Fr) (dft : Nat) : Option X → Option Int
 | none => some dft
 | some x => (x.ev fr).bind AV.int?
def fillA (fr : Fr) : List AV → List (Nat × Nat × X) → Option (List AV)
 | cs, [] => some cs
 | cs, (off, size, x) :: ps => ((x.ev fr).bind AV.cells).bind fun vs => if vs.length = size ∧ off + size ≤ cs.length then fillA fr (cs.take off ++ vs ++ cs.drop (off + size)) ps else none
def AV.hdl : AV → Option Nat
 | .ptr id _ => some id
 | .vec id _ _ => some id
 | .vptr id _ _ => some id
 | .win id _ _ _ => some id
 | .mp id => some id
 | _ => none
def objOf (s : List AObj) (v : AV) : Option AObj := v.hdl.bind (s[·]?)
def cellsO : Option AObj → Option (List AV)
 | some (.cells cs) => some cs
 | _ => none
def vecO (n : Nat) : Option AObj → Option (Nat × List AV)
 | some (.vec _ sz ds) => if 0 < sz ∧ ds.length = n * sz then some (sz, ds) else none
 | _ => none
def mapO' (ag : Bool) : Option AObj → Option (List (List Value × AV))
 | some (.map ag' es) => if ag' = ag then some es else none
 | _ => none
def mapN : Option AObj → Option Int
 | some (.map _ es) => some es.length
 | _ => none
def pickM (ds : List AV) (off : Nat) : Option Nat → Option AV
 | none => ds[off]?
 | some m => if off + m ≤ ds.length then some (.agg ((ds.drop off).take m)) else none
def pickD (ds : List D) (off : Nat) : Option Nat → Option AV
 | none => (ds[off]?).map .d
 | some m => if off + m ≤ ds.length then some (.d (.agg ((ds.drop off).take m))) else none
def rdLd (o : Option AObj) (n : Option Nat) : AV → Option AV
 | .d (.ref ds) => pickD ds 0 n
 | .ptr _ off => (cellsO o).bind fun cs => pickM cs off n
 | .vptr _ m off => (vecO m o).bind fun p => pickM p.2 off n
 | _ => none
def rdFad (off : Nat) : AV → Option AV
 | .d (.ref ds) => some (.d (.ref (ds.drop off)))
 | .ptr id o => some (.ptr id (o + off))
 | .vptr id n o => some (.vptr id n (o + off))
 | _ => none
def rdIad (o : Option AObj) (sz : Nat) (i : Int) : AV → Option AV
 | .vec id m sz' => (vecO m o).bind fun p => if sz' = sz ∧ p.1 = sz ∧ 0 ≤ i ∧ i.toNat < m then some (.vptr id m (i.toNat * sz)) else none
 | .win id off n sz' => if sz' = sz ∧ 0 ≤ i ∧ i.toNat < n then some (.ptr id (off + i.toNat * sz)) else none
 | v => (slA sz v).bind fun rows => if 0 ≤ i then (rows[i.toNat]?).map fun r => .d (.ref r) else none
def rdExt (i : Nat) : AV → Option AV
 | .d (.tup ds) => (ds[i]?).map .d
 | .tup cs => cs[i]?
 | _ => none
def rdLen (o : Option AObj) : Nat → AV → Option Int
 | 0, .d (.sl _ rows) => some rows.length
 | 0, .tsl _ _ rows => some rows.length
 | 0, .nil _ => some 0
 | 0, .emp _ => some 0
 | 0, .vec _ n _ => some n
 | 0, .win _ _ n _ => some n
 | 1, .d (.sc (.string b)) => some b.size
 | 2, .mp _ => mapN o
 | 2, .d (.sc (.map none)) => some 0
 | _, _ => none
def boolD (b : Bool) : AV := .d (.sc (.bool b))
def intD (n : Int) : AV := .d (.sc (.int .i64 n))
def rdIsn : AV → Option Bool
 | .nil _ => some true
 | .win _ _ _ _ => some false
 | .d (.sl _ (_ :: _)) => some false
 | .tsl _ _ (_ :: _) => some false
 | _ => none
def rdSlc (sz : Nat) (l : Int) (h : Option Int) : AV → Option AV
 | .win id off n sz' => if (sz' = sz ∧ l < n) ∧ 0 ≤ l ∧ l ≤ h.getD n ∧ h.getD n ≤ n then some (.win id (off + l.toNat * sz) ((h.getD n).toNat - l.toNat) sz) else none
 | v => (slA sz v).bind fun rows => if 0 ≤ l ∧ l ≤ h.getD rows.length ∧ h.getD rows.length ≤ rows.length then some (.d (.sl sz ((rows.take (h.getD rows.length).toNat).drop l.toNat))) else none
def chunk {α : Type} (sz : Nat) : Nat → List α → List (List α)
 | 0, _ => []
 | n + 1, l => l.take sz :: chunk sz n (l.drop sz)
def boundO (fr : Fr) : Option X → Option (Option Int)
 | none => some none
 | some x => ((x.ev fr).bind AV.int?).map some
def findE (ks : List SK) (key : List Value) : List (List Value × AV) → Nat → Option (Option (Nat × AV))
 | [], _ => some none
 | e :: es, i => (eqKs ks key e.1).bind fun b => if b = true then some (some (i, e.2)) else findE ks key es (i + 1)
def rdLkp (ag : Bool) (ks : List SK) (o : Option AObj) (z : AV) (ok : Bool) (key : List Value) : AV → Option AV
 | .mp _ => (mapO' ag o).bind fun es => (findE ks key es 0).map fun r => if ok then .tup [(r.map (·.2)).getD z, boolD r.isSome] else (r.map (·.2)).getD z
 | .d (.sc (.map none)) => some (if ok then .tup [z, boolD false] else z)
 | _ => none
def ret (s : List AObj) (o : Option AV) : Option (AV × List AObj) := o.map fun d => (d, s)
def undefA' : AV := .d (.sc undef)
def srcA (s : List AObj) (sz : Nat) : AV → Option (Nat × List AV)
 | .vec id n sz' => (vecO n (s[id]?)).bind fun p => if sz' = sz ∧ p.1 = sz then some (n, p.2) else none
 | .win id off n sz' => (cellsO (s[id]?)).bind fun cs => if sz' = sz ∧ off + n * sz ≤ cs.length then some (n, (cs.drop off).take (n * sz)) else none
 | v => (slA sz v).map fun rows => (rows.length, rows.flatten.map .d)
def putCells (s : List AObj) (id off m : Nat) (vs cs : List AV) : Option (AV × List AObj) := if vs.length = m ∧ off + m ≤ cs.length then some (undefA', s.set id (.cells (cs.take off ++ vs ++ cs.drop (off + m)))) else none
def putVec (s : List AObj) (id off m e sz : Nat) (vs ds : List AV) : Option (AV × List AObj) := if vs.length = m ∧ off + m ≤ ds.length then some (undefA', s.set id (.vec e sz (ds.take off ++ vs ++ ds.drop (off + m)))) else none
def eOf : Option AObj → Nat
 | some (.vec e _ _) => e
 | _ => 0
def semSt (s : List AObj) (m : Nat) (vs : List AV) : AV → Option (AV × List AObj)
 | .ptr id off => (cellsO (s[id]?)).bind fun cs => putCells s id off m vs cs
 | .vptr id n off => (vecO n (s[id]?)).bind fun p => putVec s id off m (eOf s[id]?) p.1 vs p.2
 | _ => none
def rowOk (e sz n : Nat) : Option AObj → Bool
 | some (.row e' sz2 n2) => decide (e' = e ∧ sz2 = sz ∧ n2 = n)
 | _ => false
def roomOk (n bytes : Nat) : Bool := decide (n * bytes ≤ 140737488355328 ∧ n ≤ 9223372036854775807)
def semApp (s : List AObj) (mu : Bool) (e sz bytes : Nat) (y : AV) : AV → Option (AV × List AObj)
 | .vec id n sz' => (srcA s sz y).bind fun us => (vecO n (s[id]?)).bind fun p => if (sz' = sz ∧ p.1 = sz ∧ eOf s[id]? = e ∧ us.2.length = us.1 * sz) ∧ roomOk (n + us.1) bytes = true then
     some (.vec id (n + us.1) sz, s.set id (.vec e sz (p.2 ++ us.2))) else none
 | .nil sz' => if (mu || (slA sz y).isNone) = true then (srcA s sz y).bind fun us => if (sz' = sz ∧ 0 < us.1 ∧ us.2.length = us.1 * sz) ∧ roomOk us.1 bytes = true then some (.vec s.length us.1 sz, s ++ [.vec e sz us.2]) else none else (slA sz y).bind fun news => if news = [] then some (.nil sz', s) else if sz' = sz ∧ roomOk news.length bytes = true then some (.tsl s.length sz news, s ++ [.row e sz news.length]) else none
 | .emp sz' => if mu then none else (slA sz y).bind fun news => if news = [] then some (.emp sz', s) else if sz' = sz ∧ roomOk news.length bytes = true then some (.tsl s.length sz news, s ++ [.row e sz news.length]) else none
 | .tsl id sz' rows => (slA sz y).bind fun news => if (sz' = sz ∧ rowOk e sz rows.length s[id]? = true) ∧ roomOk (rows.length + news.length) bytes = true then
     some (.tsl id sz (rows ++ news), s.set id (.row e sz (rows.length + news.length))) else none
 | _ => none
def semBsl (s : List AObj) (mu : Bool) (e sz n : Nat) (cs : List AV) : Option (AV × List AObj) :=
 if cs.length = n * sz ∧ n ≤ 9223372036854775807 then
   if (mu || (toLs cs).isNone) = true then some (.vec s.length n sz, s ++ [.vec e sz cs]) else (toLs cs).map fun ds => (.tsl s.length sz (chunk sz n ds), s ++ [.row e sz n])
 else none
def rdBsf (sz n : Nat) (cs : List AV) : Option AV := if cs.length = n * sz ∧ n ≤ 9223372036854775807 then (toLs cs).map fun ds => .d (.sl sz (chunk sz n ds)) else none
def semMks (s : List AObj) (mu : Bool) (e bytes : Nat) (z : AV) (n m : Int) : Option (AV × List AObj) :=
 if 0 ≤ n ∧ n ≤ m ∧ m * bytes ≤ 140737488355328 ∧ m ≤ 140737488355328 then
   if mu then some (.vec s.length n.toNat 1, s ++ [.vec e 1 (List.replicate n.toNat z)]) else z.toL.map fun d => (.tsl s.length 1 (List.replicate n.toNat [d]), s ++ [.row e 1 n.toNat])
 else none
def setE (es : List (List Value × AV)) (key : List Value) (v : AV) : Option (Nat × AV) → List (List Value × AV)
 | some (i, _) => es.set i (key, v)
 | none => es ++ [(key, v)]
def semMup (ag : Bool) (ks : List SK) (s : List AObj) (key : List Value) (v : AV) : AV → Option (AV × List AObj)
 | .mp id => (mapO' ag (s[id]?)).bind fun es => (findE ks key es 0).map fun r => (undefA', s.set id (.map ag (setE es key v r)))
 | _ => none
def CI.sem (fr : Fr) (s : List AObj) : CI → Option (AV × List AObj)
 | .mov x => ret s (x.ev fr)
 | .pick c a b => ret s (((c.ev fr).bind AV.bool?).bind fun v => (if v then a else b).ev fr)
 | .ld n x => ret s ((x.ev fr).bind fun v => rdLd (objOf s v) n v)
 | .st m x v => (x.ev fr).bind fun p => ((v.ev fr).bind AV.cells).bind fun vs => semSt s m vs p
 | .fad off x => ret s ((x.ev fr).bind (rdFad off))
 | .iad sz x i => ret s (((i.ev fr).bind AV.num?).bind fun j => (x.ev fr).bind fun v => rdIad (objOf s v) sz j v)
 | .ext x i => ret s ((x.ev fr).bind (rdExt i))
 | .bin op x y => ret s (((x.ev fr).bind AV.sc?).bind fun u => ((y.ev fr).bind AV.sc?).bind fun v => (binS op u v).map fun r => .d (.sc r))
 | .eqa ag ks neg x y => ret s (((x.ev fr).bind (AV.key ag)).bind fun us => ((y.ev fr).bind (AV.key ag)).bind fun vs => (eqKs ks us vs).map fun b => boolD (neg != b))
 | .isn neg x => ret s (((x.ev fr).bind rdIsn).map fun b => boolD (neg != b))
 | .not x => ret s (((x.ev fr).bind AV.bool?).map fun b => boolD !b)
 | .bad => none
 | .len kd x => ret s ((x.ev fr).bind fun v => (rdLen (objOf s v) kd v).map intD)
 | .slc sz x lo hi => ret s ((x.ev fr).bind fun v => (boundA fr 0 lo).bind fun l => (boundO fr hi).bind fun h => rdSlc sz l h v)
 | .app mu e sz bytes x y => (x.ev fr).bind fun v => (y.ev fr).bind fun u => semApp s mu e sz bytes u v
 | .bld z ps => ret s ((fillA fr z ps).map .agg)
 | .bsl mu e sz n z ps => (fillA fr z ps).bind fun cs => semBsl s mu e sz n cs
 | .bsf sz n z ps => ret s ((fillA fr z ps).bind (rdBsf sz n))
 | .mks mu e bytes z l c => ((l.ev fr).bind AV.int?).bind fun n => ((c.ev fr).bind AV.int?).bind fun m => semMks s mu e bytes z n m
 | .box x => ((x.ev fr).bind AV.cells).map fun cs => (.ptr s.length 0, s ++ [.cells cs])
 | .mkf f xs ys => ret s ((evA fr xs).bind fun us => (evA fr ys).map fun vs => .clo f us vs)
 | .mkm ag => some (.mp s.length, s ++ [.map ag []])
 | .lkp ag ks z ok m k => ret s (((k.ev fr).bind (AV.keyK ag ks)).bind fun key => (m.ev fr).bind fun v => rdLkp ag ks (objOf s v) z ok key v)
 | .mup ag ks m k v => ((k.ev fr).bind (AV.keyK ag ks)).bind fun key => (v.ev fr).bind fun u => (m.ev fr).bind fun p => semMup ag ks s key u p
 | .call _ _ => none
def AV.vecId : AV → Option Nat
 | .vec id _ _ => some id
 | _ => none
def CI.use (fr : Fr) : CI → Option Nat
 | .ld _ x => (x.ev fr).bind AV.hdl
 | .iad _ x _ => (x.ev fr).bind AV.vecId
 | .len kd x => if kd = 2 then (x.ev fr).bind AV.hdl else none
 | .lkp _ _ _ _ m _ => (m.ev fr).bind AV.hdl
 | _ => none
def appT : Option AV → Nat
 | some (.nil _) => 3
 | some (.emp _) => 3
 | _ => 2
theorem appT_ge (o : Option AV) : 2 ≤ appT o := by unfold appT; split <;> decide
theorem appT_le (o : Option AV) : appT o ≤ 3 := by unfold appT; split <;> decide
def CI.touch (fr : Fr) : CI → Nat
 | .st .. | .mup .. => 2
 | .app _ _ _ _ x _ => appT (x.ev fr)
 | .box .. | .bsl .. | .mks .. | .mkm _ => 3
 | .ld n x => if (CI.use fr (.ld n x)).isSome then 1 else 0
 | .iad sz x i => if (CI.use fr (.iad sz x i)).isSome then 1 else 0
 | .len kd x => if (CI.use fr (.len kd x)).isSome then 1 else 0
 | .lkp ag ks z ok m k => if (CI.use fr (.lkp ag ks z ok m k)).isSome then 1 else 0
 | _ => 0
def AV.rowId : AV → Option Nat
 | .vec id _ _ => some id
 | .tsl id _ _ => some id
 | _ => none
def CI.wr (fr : Fr) : CI → Option Nat
 | .st _ x _ => (x.ev fr).bind AV.hdl
 | .app _ _ _ _ x _ => (x.ev fr).bind AV.rowId
 | .mup _ _ m _ _ => (m.ev fr).bind AV.hdl
 | _ => none
def markOf (t : Nat) (u w : Option Nat) : Nat := if t = 1 then (u.map (4 + 2 * ·)).getD 1 else if t = 2 then (w.map (5 + 2 * ·)).getD 2 else t
def CI.mark (fr : Fr) (ci : CI) : Nat := markOf (ci.touch fr) (ci.use fr) (ci.wr fr)
end Go.Bb

namespace Go.Bb
open Go Go.RowKit Go.Ab
def leafS (P : Program) : Nat → TypeId → Option (List SK)
 | 0, _ => none
 | d + 1, t =>
   match P.underlying t with
   | some (.int _) => if P.cellsOf t = 1 ∧ (P.info? t).isSome = true then some [.i] else none
   | some .string => if P.cellsOf t = 1 ∧ (P.info? t).isSome = true then some [.s] else none
   | some .bool => if P.cellsOf t = 1 ∧ (P.info? t).isSome = true then some [.b] else none
   | some (.array n e) => match leafS P d e with
     | some ks => if (ks.length = P.cellsOf e ∧ n * ks.length = P.cellsOf t) ∧ (P.info? t).isSome = true ∧ (P.info? e).isSome = true then some (List.replicate n ks).flatten else none
     | none => none
   | some (.struct fs) =>
     if fs.all (·.name != "_") = true ∧ P.stoodInHeld t = false ∧ (P.info? t).isSome = true then
       match fs.toList.mapM fun f => leafS P d f.type with
       | some kss => if kss.map List.length = fs.toList.map (fun f => P.cellsOf f.type) ∧ offsOk fs.toList kss 0 = true ∧ kss.flatten.length = P.cellsOf t then some kss.flatten else none
       | none => none
     else none
   | _ => none
where
 offsOk : List Field → List (List SK) → Nat → Bool
   | f :: fs, ks :: kss, off => decide (f.offset = off) && offsOk fs kss (off + ks.length)
   | _, _, _ => true
theorem eqKs_len : ∀ {ks : List SK} {us vs : List Value} {b : Bool}, eqKs ks us vs = some b → us.length = ks.length ∧ vs.length = ks.length
 | [], [], [], _, _ => ⟨rfl, rfl⟩
 | .i :: ks, .int k a :: us, .int k' c :: vs, b, h => by
   unfold eqKs at h
   split at h
   · obtain ⟨r, h', _⟩ := Option.map_eq_some_iff.1 h
     have := eqKs_len h'; simp [this.1, this.2]
   · cases h
 | .s :: ks, .string a :: us, .string c :: vs, b, h => by
   unfold eqKs at h
   obtain ⟨r, h', _⟩ := Option.map_eq_some_iff.1 h
   have := eqKs_len h'; simp [this.1, this.2]
 | .b :: ks, .bool a :: us, .bool c :: vs, b, h => by
   unfold eqKs at h
   obtain ⟨r, h', _⟩ := Option.map_eq_some_iff.1 h
   have := eqKs_len h'; simp [this.1, this.2]
 | [], _ :: _, _, _, h => by simp [eqKs] at h
 | [], [], _ :: _, _, h => by simp [eqKs] at h
 | k :: ks, [], _, _, h => by cases k <;> simp [eqKs] at h
 | k :: ks, u :: us, [], _, h => by cases k <;> simp [eqKs] at h
theorem eqKs_append : ∀ {k1 k2 : List SK} {us vs : List Value} {b : Bool}, eqKs (k1 ++ k2) us vs = some b →
   ∃ b1 b2, eqKs k1 (us.take k1.length) (vs.take k1.length) = some b1 ∧ eqKs k2 (us.drop k1.length) (vs.drop k1.length) = some b2 ∧ b = (b1 && b2)
 | [], k2, us, vs, b, h => ⟨true, b, by simp [eqKs], by simpa using h, by simp⟩
 | .i :: k1, k2, .int k a :: us, .int k' c :: vs, b, h => by
   rw [List.cons_append, eqKs] at h
   split at h
   · rename_i hk
     obtain ⟨r, h', rfl⟩ := Option.map_eq_some_iff.1 h
     obtain ⟨b1, b2, e1, e2, rfl⟩ := eqKs_append h'
     refine ⟨(a == c) && b1, b2, ?_, by simpa using e2, by simp [Bool.and_assoc]⟩
     rw [List.length_cons, List.take_succ_cons, List.take_succ_cons, eqKs, if_pos hk, e1]; rfl
   · cases h
 | .s :: k1, k2, .string a :: us, .string c :: vs, b, h => by
   rw [List.cons_append, eqKs] at h
   obtain ⟨r, h', rfl⟩ := Option.map_eq_some_iff.1 h
   obtain ⟨b1, b2, e1, e2, rfl⟩ := eqKs_append h'
   refine ⟨(a.toList == c.toList) && b1, b2, ?_, by simpa using e2, by simp [Bool.and_assoc]⟩
   rw [List.length_cons, List.take_succ_cons, List.take_succ_cons, eqKs, e1]; rfl
 | .b :: k1, k2, .bool a :: us, .bool c :: vs, b, h => by
   rw [List.cons_append, eqKs] at h
   obtain ⟨r, h', rfl⟩ := Option.map_eq_some_iff.1 h
   obtain ⟨b1, b2, e1, e2, rfl⟩ := eqKs_append h'
   refine ⟨(a == c) && b1, b2, ?_, by simpa using e2, by simp [Bool.and_assoc]⟩
   rw [List.length_cons, List.take_succ_cons, List.take_succ_cons, eqKs, e1]; rfl
 | k :: k1, _, [], _, _, h => by cases k <;> simp [eqKs] at h
 | k :: k1, _, u :: us, [], _, h => by cases k <;> simp [eqKs] at h
section
variable {P : Program}
def valC (P : Program) (t : TypeId) (us : List Value) : Value := match P.underlying t with
 | some (.struct _) => .agg us.toArray
 | some (.array _ _) => .agg us.toArray
 | _ => us.headD undef
theorem run_isAgg {w : World} {t : TypeId} {d : TypeDesc} (h : P.underlying t = some d) : (isAgg t).run P w = .ok d.isRow w := by
 unfold isAgg
 simp only [Sem.run_bind, run_underlying h, Result.andThen_ok]
 cases d <;> rfl
theorem leafS_info : ∀ {d : Nat} {t : TypeId} {ks : List SK}, leafS P d t = some ks → ∃ i, P.info? t = some i ∧ i.size = ks.length ∧ P.cellsOf t = ks.length
 | 0, t, ks, h => by simp [leafS] at h
 | d + 1, t, ks, h => by
   have fin : (P.info? t).isSome = true → P.cellsOf t = ks.length → ∃ i, P.info? t = some i ∧ i.size = ks.length ∧ P.cellsOf t = ks.length := fun h1 h2 => by
     obtain ⟨i, hi⟩ := Option.isSome_iff_exists.1 h1
     refine ⟨i, hi, ?_, h2⟩
     unfold Program.cellsOf at h2
     rw [hi] at h2
     simpa using h2
   unfold leafS at h
   split at h
   · split at h
     · rename_i hc; obtain rfl := Option.some.inj h; exact fin hc.2 hc.1
     · cases h
   · split at h
     · rename_i hc; obtain rfl := Option.some.inj h; exact fin hc.2 hc.1
     · cases h
   · split at h
     · rename_i hc; obtain rfl := Option.some.inj h; exact fin hc.2 hc.1
     · cases h
   · split at h
     · split at h
       · rename_i hc
         obtain rfl := Option.some.inj h
         exact fin hc.2.1 (by rw [← hc.1.2]; simp)
       · cases h
     · cases h
   · split at h
     · rename_i hc
       split at h
       · split at h
         · rename_i hc2
           obtain rfl := Option.some.inj h
           exact fin hc.2.2 hc2.2.2.symm
         · cases h
       · cases h
     · cases h
   · cases h
theorem run_partS {w : World} {d : Nat} {t : TypeId} {ks : List SK} (h : leafS P d t = some ks) {cs : Array Value} {off : Nat} (hl : off + ks.length ≤ cs.size) : (part t cs off).run P w = .ok (valC P t ((cs.toList.drop off).take ks.length)) w := by
 obtain ⟨i, hi, hsz, hc⟩ := leafS_info h
 have hex : cs.extract off (off + ks.length) = ((cs.toList.drop off).take ks.length).toArray := by
   apply Array.ext'; simp [List.take_drop]
 cases d with
 | zero => simp [leafS] at h
 | succ d =>
   unfold leafS at h
   unfold valC
   have sc : ∀ td, P.underlying t = some td → td.isRow = false → ks.length = 1 → (part t cs off).run P w = .ok (((cs.toList.drop off).take ks.length).headD undef) w := fun td hu hr h1 => by
     have hlt : off < cs.size := by omega
     have hg : cs[off]? = some cs[off] := Array.getElem?_eq_getElem hlt
     unfold part
     simp only [Sem.run_bind, run_isAgg hu, hr, Result.andThen_ok, Bool.false_eq_true, if_false, hg, Sem.run_pure, h1]
     congr 1
     have : cs.toList.drop off = cs[off] :: cs.toList.drop (off + 1) := by rw [List.drop_eq_getElem_cons (by simpa using hlt)]; simp
     rw [this]; rfl
   have ag : ∀ td, P.underlying t = some td → td.isRow = true → (part t cs off).run P w = .ok (.agg ((cs.toList.drop off).take ks.length).toArray) w := fun td hu hr => by
     unfold part
     simp only [Sem.run_bind, run_isAgg hu, hr, Result.andThen_ok, if_true, sizeOf, typeInfo, run_program, hi, Sem.run_pure, hsz, hex]
   split at h
   · rename_i q hu; rw [hu]; split at h
     · obtain rfl := Option.some.inj h; exact sc _ hu rfl rfl
     · cases h
   · rename_i hu; rw [hu]; split at h
     · obtain rfl := Option.some.inj h; exact sc _ hu rfl rfl
     · cases h
   · rename_i hu; rw [hu]; split at h
     · obtain rfl := Option.some.inj h; exact sc _ hu rfl rfl
     · cases h
   · rename_i n e hu; rw [hu]; exact ag _ hu rfl
   · rename_i fs hu; rw [hu]; exact ag _ hu rfl
   · cases h
def EqS (P : Program) (m : Nat) (t : TypeId) (ks : List SK) : Prop := ∀ (w : World) (us vs : List Value) (b : Bool), eqKs ks us vs = some b → (Op.equalIn m t (valC P t us) (valC P t vs)).run P w = .ok b w
theorem run_eqFieldsS {w : World} {d m : Nat} (xs ys : Array Value) : ∀ (fs : List Field) (kss : List (List SK)) (off : Nat) (b : Bool), (∀ f ∈ fs, f.name ≠ "_") → (∀ f ∈ fs, ∀ ks, leafS P d f.type = some ks → EqS P m f.type ks) →
   fs.mapM (fun f => leafS P d f.type) = some kss → leafS.offsOk fs kss off = true → off + kss.flatten.length ≤ xs.size → off + kss.flatten.length ≤ ys.size → eqKs kss.flatten ((xs.toList.drop off).take kss.flatten.length) ((ys.toList.drop off).take kss.flatten.length) = some b → (Op.eqFields m xs ys fs).run P w = .ok b w
 | [], kss, off, b, _, _, h1, _, _, _, h => by
   obtain rfl : kss = [] := by simpa using h1.symm
   simp [eqKs] at h
   subst h
   simp [Op.eqFields]
 | f :: fs, kss, off, b, hn, hE, h1, h2, hx, hy, h => by
   rw [List.mapM_cons] at h1
   cases hk : leafS P d f.type with
   | none => rw [hk] at h1; cases h1
   | some ks =>
     cases hm : fs.mapM fun f => leafS P d f.type with
     | none => rw [hk, hm] at h1; cases h1
     | some kss' =>
       rw [hk, hm] at h1
       obtain rfl : ks :: kss' = kss := Option.some.inj h1
       simp only [leafS.offsOk, Bool.and_eq_true, decide_eq_true_eq] at h2
       rw [List.flatten_cons, List.length_append] at hx hy
       rw [List.flatten_cons] at h
       obtain ⟨b1, b2, e1, e2, rfl⟩ := eqKs_append h
       rw [List.take_take, List.take_take, Nat.min_eq_left (by simp)] at e1
       rw [List.drop_take, List.drop_take, List.drop_drop, List.drop_drop, List.length_append, Nat.add_sub_cancel_left] at e2
       have p1 := run_partS (w := w) hk (cs := xs) (off := off) (by omega)
       have p2 := run_partS (w := w) hk (cs := ys) (off := off) (by omega)
       have q := hE f (by simp) ks hk w _ _ _ e1
       have r := run_eqFieldsS (w := w) xs ys fs kss' (off + ks.length) b2 (fun g hg => hn g (by simp [hg])) (fun g hg => hE g (by simp [hg])) hm h2.2 (by omega) (by omega) e2
       have hne := hn f (by simp)
       simp only [Op.eqFields, ne_eq, hne, not_false_eq_true, if_true, Sem.run_bind, h2.1, p1, p2, q, Result.andThen_ok]
       cases b1 with
       | true => simpa using r
       | false => simp
theorem run_eqItemsS {w : World} {d m : Nat} {e : TypeId} {ks : List SK} (hk : leafS P d e = some ks) (hE : EqS P m e ks) (xs ys : Array Value) : ∀ (n i : Nat) (b : Bool), (i + n) * ks.length ≤ xs.size → (i + n) * ks.length ≤ ys.size →
   eqKs (List.replicate n ks).flatten ((xs.toList.drop (i * ks.length)).take (n * ks.length)) ((ys.toList.drop (i * ks.length)).take (n * ks.length)) = some b → (Op.eqItems m e ks.length xs ys (List.range' i n)).run P w = .ok b w
 | 0, i, b, _, _, h => by
   simp [eqKs] at h
   subst h
   simp [Op.eqItems]
 | n + 1, i, b, hx, hy, h => by
   rw [List.replicate_succ, List.flatten_cons] at h
   obtain ⟨b1, b2, e1, e2, rfl⟩ := eqKs_append h
   have hmul : (n + 1) * ks.length = ks.length + n * ks.length := by rw [Nat.add_mul, Nat.one_mul, Nat.add_comm]
   have hmul2 : (i + (n + 1)) * ks.length = i * ks.length + (ks.length + n * ks.length) := by rw [Nat.add_mul, hmul]
   have hmul3 : (i + 1) * ks.length = i * ks.length + ks.length := by rw [Nat.add_mul, Nat.one_mul]
   rw [List.take_take, List.take_take, Nat.min_eq_left (by omega)] at e1
   rw [List.drop_take, List.drop_take, List.drop_drop, List.drop_drop, hmul, Nat.add_sub_cancel_left, ← hmul3] at e2
   have p1 := run_partS (w := w) hk (cs := xs) (off := i * ks.length) (by omega)
   have p2 := run_partS (w := w) hk (cs := ys) (off := i * ks.length) (by omega)
   have q := hE w _ _ _ e1
   have hmul4 : (i + 1 + n) * ks.length = i * ks.length + (ks.length + n * ks.length) := by rw [← hmul2]; congr 1; omega
   have r := run_eqItemsS (w := w) hk hE xs ys n (i + 1) b2 (by omega) (by omega) e2
   rw [List.range'_succ]
   simp only [Op.eqItems, Sem.run_bind, p1, p2, q, Result.andThen_ok]
   cases b1 with
   | true => simpa using r
   | false => simp
theorem equalIn_ok : ∀ (d m : Nat) (t : TypeId) (ks : List SK), d ≤ m → leafS P d t = some ks → EqS P m t ks
 | 0, _, _, _, _, h => by simp [leafS] at h
 | d + 1, 0, _, _, hm, _ => by omega
 | d + 1, m + 1, t, ks, hm, h => by
   intro w us vs b hb
   obtain ⟨l1, l2⟩ := eqKs_len hb
   unfold leafS at h
   unfold valC
   split at h
   · rename_i q hu
     split at h
     · obtain rfl := Option.some.inj h
       rw [hu]
       match us, vs, hb with
       | [.int k x], [.int k' y], hb =>
         simp [eqKs] at hb
         obtain ⟨rfl, rfl⟩ := hb
         exact run_equalIn_int w m t k q x y hu
       | .int _ _ :: _ :: _, _, hb => simp at l1
       | [.int _ _], .int _ _ :: _ :: _, hb => simp at l2
     · cases h
   · rename_i hu
     split at h
     · obtain rfl := Option.some.inj h
       rw [hu]
       match us, vs, hb with
       | [.string x], [.string y], hb =>
         simp [eqKs] at hb
         obtain rfl := hb
         exact run_equalIn_string w m t x y hu
       | .string _ :: _ :: _, _, hb => simp at l1
       | [.string _], .string _ :: _ :: _, hb => simp at l2
     · cases h
   · rename_i hu
     split at h
     · obtain rfl := Option.some.inj h
       rw [hu]
       match us, vs, hb with
       | [.bool x], [.bool y], hb =>
         simp [eqKs] at hb
         obtain rfl := hb
         exact run_equalIn_bool w m t x y hu
       | .bool _ :: _ :: _, _, hb => simp at l1
       | [.bool _], .bool _ :: _ :: _, hb => simp at l2
     · cases h
   · rename_i n e hu
     rw [hu]
     split at h
     · rename_i ke he
       split at h
       · rename_i hc
         obtain rfl := Option.some.inj h
         obtain ⟨ie, hie⟩ := Option.isSome_iff_exists.1 hc.2.2
         have hfl : (List.replicate n ke).flatten.length = n * ke.length := by simp
         dsimp only
         rw [run_equalIn_array w m us.toArray vs.toArray hu hie, ← hc.1.1, List.range_eq_range']
         refine run_eqItemsS he (equalIn_ok d m e ke (by omega) he) us.toArray vs.toArray n 0 b (by simp; omega) (by simp; omega) ?_
         rw [Nat.zero_mul, List.drop_zero, List.drop_zero, List.take_of_length_le (by simp; omega), List.take_of_length_le (by simp; omega)]
         exact hb
       · cases h
     · cases h
   · rename_i fs hu
     rw [hu]
     split at h
     · rename_i hn
       split at h
       · rename_i kss hk
         split at h
         · rename_i hc
           obtain rfl := Option.some.inj h
           have hfs : P.fieldsOf t = fs := by simp [Program.fieldsOf, hu]
           dsimp only
           rw [run_equalIn_struct w m t us.toArray vs.toArray (by rw [hfs]; exact hu) hn.2.1, hfs]
           refine run_eqFieldsS us.toArray vs.toArray fs.toList kss 0 b (fun f hf => ?_) (fun f _ ks' hk' => equalIn_ok d m f.type ks' (by omega) hk') hk hc.2.1 (by rw [List.size_toArray, Nat.zero_add, l1]; exact Nat.le_refl _) (by rw [List.size_toArray, Nat.zero_add, l2]; exact Nat.le_refl _) ?_
           · have := Array.all_eq_true_iff_forall_mem.1 hn.1 f (Array.mem_toList_iff.1 hf)
             simpa using this
           · rw [List.drop_zero, List.drop_zero, List.take_of_length_le (Nat.le_of_eq l1), List.take_of_length_le (Nat.le_of_eq l2)]
             exact hb
         · cases h
       · cases h
     · cases h
   · cases h
end
end Go.Bb
