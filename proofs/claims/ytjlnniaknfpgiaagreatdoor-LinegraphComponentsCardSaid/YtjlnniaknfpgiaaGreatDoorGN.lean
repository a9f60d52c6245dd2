/-
  Part GN of this claim's proof. Joined by merge.py from the texts of wip/tpl.
-/
import Derived.Test.YtjlnniaknfpgiaaGreatDoorGA
import Derived.Test.YtjlnniaknfpgiaaGreatDoorBbV
import Derived.Test.YtjlnniaknfpgiaaGreatDoorShelf
import Derived.WalkKit
import Derived.TacticsIn
import Derived.Lib.SliceRun
import Derived.Lib.AppendZeros
import Derived.Deep.AppendSrc
import Derived.Lib.Builder
import Derived.Lib.UnsafeStr
set_option linter.unusedVariables false
set_option linter.unusedSimpArgs false
set_option linter.unnecessarySimpa false
set_option linter.unusedVariables false
namespace Go.Proofs.Lh
open Go Go.Ab Go.Bb Go.RowKit Go.Proofs.Lg

theorem enters_fn' {P : Program} {f : FuncId} {fn : Func} {c : Code} (hfn : P.funcs[f]? = some fn) (hb : fn.body = some c) (hn : (fn.name == "runtime.NumGoroutine") = false) : Enters P f := fun args w => by
  have hn' : fn.name ≠ "runtime.NumGoroutine" := by simpa using hn
  simp [callFunc, hfn, hn', hb, mark]

def byD : D → Option Int
  | .sc (.int .u8 n) => if 0 ≤ n ∧ n < 256 then some n else none
  | _ => none
def rowBy : List (List D) → Option (List Int)
  | [] => some []
  | r :: l => (r.head?.bind byD).bind fun n => if r.length = 1 then (rowBy l).map (n :: ·) else none
theorem rowBy_ok : ∀ {rows : List (List D)} {x : List Int}, rowBy rows = some x → Bytes x ∧ rows = x.map fun n => [D.sc (.int .u8 n)]
  | [], x, h => by cases h; exact ⟨fun z hz => by simp at hz, rfl⟩
  | r :: l, x, h => by
    obtain ⟨n, h1, h2⟩ := bindI (show (r.head?.bind byD).bind (fun n => if r.length = 1 then (rowBy l).map (n :: ·) else none) = some x from h)
    obtain ⟨h3, h4⟩ := iteI h2
    obtain ⟨y, h5, rfl⟩ := mapI h4
    obtain ⟨g1, g2⟩ := rowBy_ok h5
    obtain ⟨d, h6, h7⟩ := bindI h1
    match r, h3, h6 with
    | [d'], _, h6 =>
      obtain rfl : d' = d := by simpa using h6
      unfold byD at h7
      split at h7
      · rename_i m
        obtain ⟨h8, h9⟩ := iteI h7
        obtain rfl := Option.some.inj h9
        refine ⟨fun z hz => ?_, by rw [List.map_cons, ← g2]⟩
        rcases List.mem_cons.1 hz with rfl | hz
        · exact h8
        · exact g1 z hz
      · cases h7
/-- Bytes in a row. -/
theorem bytes_row {I : Nat → Nat} {w : World} {v : Value} {x : List Int} (h : RD I w v (.sl 1 (x.map fun n => [D.sc (.int .u8 n)]))) (hx : 0 < x.length) : ∃ b off c, v = .slice (some ⟨b, off, none⟩) x.length c ∧ ∀ i z, x[i]? = some z → w.cell? ⟨b, off + i, none⟩ = some (Value.int .u8 z) := by
  obtain ⟨a, c, us, rfl, h2, h3, h4, h5, h6⟩ := h.sl_inv
  obtain ⟨b, off, rfl, hc⟩ := h6 (by intro e; have := congrArg List.length e; rw [List.length_map] at this; simp only [List.length_nil] at this; omega)
  have hfl : (x.map fun n => [D.sc (.int .u8 n)]).flatten = x.map fun n => D.sc (.int .u8 n) := by
    clear h2 h3 h4 h5 h6 hc hx h
    induction x with
    | nil => rfl
    | cons a l ih => simp [ih]
  rw [hfl] at h5
  refine ⟨b, off, c, by rw [List.length_map], fun i z hz => ?_⟩
  have hl := h5.1
  rw [List.length_map] at hl
  have hi := (List.getElem?_eq_some_iff.1 hz).1
  have hu : us[i]? = some us[i] := List.getElem?_eq_getElem (by omega)
  have hrd := h5.2.2 i _ _ hu (by rw [List.getElem?_map, hz]; rfl)
  rw [(hc i _ hu).2]
  congr 1
  generalize us[i] = u at hrd
  cases hrd; rfl

def knCmp : D → D → Option D
  | .sl 1 a, .sl 1 b => (rowBy a).bind fun x => (rowBy b).bind fun y => if x.length = y.length ∧ 0 < x.length then some (.sc (.int .i64 (lexCmp x y))) else none
  | _, _ => none
theorem knCmp_ok {a b r : D} (h : knCmp a b = some r) : AFn Tryz.prog 51 [a, b] r := by
  unfold knCmp at h
  split at h
  · rename_i ra rb
    obtain ⟨x, hx, h1⟩ := bindI h
    obtain ⟨y, hy, h2⟩ := bindI h1
    obtain ⟨⟨hl, hp⟩, h3⟩ := iteI h2
    obtain rfl := Option.some.inj h3
    obtain ⟨bx, rfl⟩ := rowBy_ok hx
    obtain ⟨bY, rfl⟩ := rowBy_ok hy
    refine ⟨enters_fn' Tryz.func51 rfl (by rfl), fun I w vs hlv hv => ?_⟩
    match vs, hlv with
    | [u, v], _ =>
      obtain ⟨b, off, c, rfl, k1⟩ := bytes_row (hv 0 _ _ rfl rfl) hp
      obtain ⟨b', off', c', rfl, k2⟩ := bytes_row (hv 1 _ _ rfl rfl) (by omega)
      rw [← hl]
      refine (bytesCompare_any w b b' off off' x.length c c' x y bx bY rfl hl.symm k1 k2).mono ?_
      rintro e w' ⟨rfl, rfl⟩
      exact ⟨_, rfl, .sc _, Below.refl _ _⟩
  · cases h

def knIdx : D → D → Option D
  | .sc (.string s), .sc (.int .u8 c) => some (.sc (.int .i64 (Go.Lib.indexByte s.data.toList c.toNat.toUInt8)))
  | _, _ => none
theorem knIdx_ok {a b r : D} (h : knIdx a b = some r) : AFn Tryz.prog 230 [a, b] r := by
  unfold knIdx at h
  split at h
  · rename_i s c
    obtain rfl := Option.some.inj h
    refine ⟨enters_fn' Tryz.func230 rfl (by rfl), fun I w vs hlv hv => ?_⟩
    match vs, hlv with
    | [u, v], _ =>
      have h1 := hv 0 u _ rfl rfl
      have h2 := hv 1 v _ rfl rfl
      cases h1; cases h2
      refine (Tryz.strings_IndexByte s c w).mono ?_
      rintro e w' ⟨rfl, rfl⟩
      exact ⟨_, rfl, .sc _, Below.refl _ _⟩
  · cases h

/-! ### slices.Clone of an empty slice -/

theorem clone_empty {f : FuncId} (he : Enters Tryz.prog f) {n : Nat} (h1 : ∀ w m c, Calls Tryz.prog f #[.slice none m c] w fun e w' => e = .returned (.slice none 0 0) ∧ w' = w)
    (h2 : ∀ w a c, Calls Tryz.prog f #[.slice (some a) 0 c] w fun e w' => ∃ v', e = .returned v' ∧ (∃ a', v' = .slice a' 0 0) ∧ Below w.heap.size w w') (s : List AObj) : FnRuns (LLc Tryz.prog) Tryz.prog f [.d (.sl n [])] s (.emp n) s := by
  refine ⟨he, fun B k w vs hst hvs => ?_⟩
  match vs, hvs with
  | [v], hvs =>
    have hrd := (hvs.2 0 v _ rfl rfl).d_inv
    obtain ⟨a, c, us, rfl, _⟩ := hrd.sl_inv
    cases a with
    | none =>
      refine (h1 w 0 c).mono ?_
      rintro e w' ⟨rfl, rfl⟩
      exact ⟨_, k, rfl, .emp, Ext.refl B k _, hst⟩
    | some a =>
      refine (h2 w a c).mono ?_
      rintro e w' ⟨v', rfl, ⟨a', rfl⟩, hb⟩
      exact ⟨_, ⟨bigI k.I w.heap.size w', k.own⟩, rfl, .emp, Ext.called hst.base hb, hst.called hb⟩
end Go.Proofs.Lh

set_option linter.unusedVariables false
namespace Go.Proofs.Lh
open Go Go.Ab Go.Bb Go.RowKit Go.Proofs.Lg

set_option maxHeartbeats 400000 in
set_option maxRecDepth 100000 in
theorem CloneInts_zero (a : Addr) (c : Nat) (w : World) : Calls Tryz.prog 55 #[.slice (some a) 0 c] w fun e w' => ∃ v', e = .returned v' ∧ (∃ a', v' = .slice a' 0 0) ∧ Below w.heap.size w w' := by
  have q : ∀ (w : World) (a : Option Addr) (n c n' c' : Nat), (binOp .eql 37 (.slice a n c) (.slice none n' c')).run Tryz.prog w = .ok (.bool a.isNone) w := fun w a n c n' c' => Go.Lib.run_eql_slice_nil w _ _ a n c n' c' Tryz.underlying37
  obtain ⟨j, hj⟩ : ∃ j, Tryz.prog.info? 3 = some j := Option.isSome_iff_exists.1 (show (Tryz.prog.info? 3).isSome = true by kernel_rfl)
  have hrun : ∀ (ty : TypeId) (b : Addr) (W : World), (Builtin.append_ #[37, 37] ty #[.slice (some b) 0 0, .slice (some a) 0 c]).run Tryz.prog W = .ok (.slice (some b) 0 0) W := fun ty b W => by
    simp [Builtin.append_, run_underlying Tryz.underlying37, sizeOf, typeInfo, hj, Builtin.lenOf, Builtin.firstCells, loadCells, loadCellsFrom, storeCells]
  go_enter Tryz.func55, Tryz.ntmps55
  go_wp2_with (at_builtin; refine Go.Lib.wpList_append_run _ rfl _ _ _ _ rfl _ _ rfl rfl _ _ (hrun _ _ _) ?_)
  go_ret
  exact ⟨_, rfl, ⟨_, rfl⟩, (Below.refl _ _).alloc (Nat.le_refl _) _⟩
set_option maxHeartbeats 400000 in
set_option maxRecDepth 100000 in
theorem CloneDigests_zero (a : Addr) (c : Nat) (w : World) : Calls Tryz.prog 140 #[.slice (some a) 0 c] w fun e w' => ∃ v', e = .returned v' ∧ (∃ a', v' = .slice a' 0 0) ∧ Below w.heap.size w w' := by
  have q : ∀ (w : World) (a : Option Addr) (n c n' c' : Nat), (binOp .eql 76 (.slice a n c) (.slice none n' c')).run Tryz.prog w = .ok (.bool a.isNone) w := fun w a n c n' c' => Go.Lib.run_eql_slice_nil w _ _ a n c n' c' Tryz.underlying76
  obtain ⟨j, hj⟩ : ∃ j, Tryz.prog.info? 40 = some j := Option.isSome_iff_exists.1 (show (Tryz.prog.info? 40).isSome = true by kernel_rfl)
  have hrun : ∀ (ty : TypeId) (b : Addr) (W : World), (Builtin.append_ #[76, 76] ty #[.slice (some b) 0 0, .slice (some a) 0 c]).run Tryz.prog W = .ok (.slice (some b) 0 0) W := fun ty b W => by
    simp [Builtin.append_, run_underlying Tryz.underlying76, sizeOf, typeInfo, hj, Builtin.lenOf, Builtin.firstCells, loadCells, loadCellsFrom, storeCells]
  go_enter Tryz.func140, Tryz.ntmps140
  go_wp2_with (at_builtin; refine Go.Lib.wpList_append_run _ rfl _ _ _ _ rfl _ _ rfl rfl _ _ (hrun _ _ _) ?_)
  go_ret
  exact ⟨_, rfl, ⟨_, rfl⟩, (Below.refl _ _).alloc (Nat.le_refl _) _⟩
set_option maxHeartbeats 400000 in
set_option maxRecDepth 100000 in
theorem CloneDigests_nil (m c : Nat) (w : World) : Calls Tryz.prog 140 #[.slice none m c] w fun e w' => e = .returned (.slice none 0 0) ∧ w' = w := by
  have q : ∀ (w : World) (a : Option Addr) (n c n' c' : Nat), (binOp .eql 76 (.slice a n c) (.slice none n' c')).run Tryz.prog w = .ok (.bool a.isNone) w := fun w a n c n' c' => Go.Lib.run_eql_slice_nil w _ _ a n c n' c' Tryz.underlying76
  go_enter Tryz.func140, Tryz.ntmps140
  go_wp2
  go_ret
  exact ⟨rfl, rfl⟩

theorem cloneInts_emp (n : Nat) (s : List AObj) : FnRuns (LLc Tryz.prog) Tryz.prog 55 [.d (.sl n [])] s (.emp n) s :=
  clone_empty (enters_fn' Tryz.func55 rfl (by rfl)) (fun w m c => Tryz.slices_Clone_int_nil m c w) (fun w a c => CloneInts_zero a c w) s
theorem cloneDigests_emp (n : Nat) (s : List AObj) : FnRuns (LLc Tryz.prog) Tryz.prog 140 [.d (.sl n [])] s (.emp n) s :=
  clone_empty (enters_fn' Tryz.func140 rfl (by rfl)) (fun w m c => CloneDigests_nil m c w) (fun w a c => CloneDigests_zero a c w) s
end Go.Proofs.Lh

set_option linter.unusedVariables false
namespace Go.Proofs.Lh
open Go Go.Ab Go.Bb Go.RowKit Go.Proofs.Lg

section
variable {P : Program}

theorem run_append_roomS (w : World) (t tx ty e : TypeId) (i : TypeInfo) (ht : P.underlying t = some (.slice e)) (hi : P.info? e = some i)
    (g sLen sCap : Nat) (cur : Array Value) (fz : Nat × Nat) (hg : w.heap[g]? = some (.cells cur e fz)) (hfz : fz.2 ≤ sLen * i.size ∨ cur.size ≤ fz.1)
    (x : Value) (m : Nat) (news : List Value) (hs : Src P i.size tx x m news w) (hroom : sLen + m ≤ sCap) (hfit : sLen * i.size + news.length ≤ cur.size) :
    (Builtin.append_ #[t, tx] ty #[.slice (some ⟨g, 0, none⟩) sLen sCap, x]).run P w =
      .ok (.slice (some ⟨g, 0, none⟩) (sLen + m) sCap) (w.setRow g (cur.toList.take (sLen * i.size) ++ news ++ cur.toList.drop (sLen * i.size + news.length)).toArray) := by
  have hst := run_storeCells_atG P g (sLen * i.size) e fz news 0 cur w hg (by simpa using hfz) (by simpa using hfit) hs.one
  simp only [Nat.add_zero] at hst
  rcases hs.kind with ⟨e', hk⟩ | hk <;> simp [Builtin.append_, run_underlying ht, run_underlying hk, sizeOf, typeInfo, hi, hs.len, hroom, hs.cells, Addr.add_lit, hst]

/-- What an append to an own row comes to. -/
def Appended (w w' : World) (B e sz n m : Nat) (v v' : Value) (xs : List Value) : Prop :=
  (ownsG w' B e sz v' (n + m) xs) ∧ Below B w w' ∧ ((∃ g, v'.ownBlock = some g ∧ v.ownBlock = some g ∧ w.grownBy w' (some g)) ∨ (v'.ownBlock = some w.heap.size ∧ w.heap.size < w'.heap.size ∧ w.grownBy w' none))

theorem run_appS (w : World) (base : Nat) (t tx ty e : TypeId) (i : TypeInfo) (z : Value) (ht : P.underlying t = some (.slice e)) (hi : P.info? e = some i) (hz : i.zero = some z) (hzs : z.cells.size = i.size)
    (v : Value) (n : Nat) (xs : List Value) (hown : ownsG w base e i.size v n xs) (x : Value) (m : Nat) (news : List Value) (hs : Src P i.size tx x m news w)
    (h63 : n + m ≤ 9223372036854775807) (hbytes : (n + m) * i.bytes ≤ 140737488355328) (hbase : base ≤ w.heap.size) :
    ∃ v' w', (Builtin.append_ #[t, tx] ty #[v, x]).run P w = .ok v' w' ∧ ((m = 0 ∧ v' = v ∧ w' = w) ∨ (0 < m ∧ Appended w w' base e i.size n m v v' (xs ++ news))) ∧
      (0 < m → w.ownsRow base e i.size v n xs → w'.ownsRow base e i.size v' (n + m) (xs ++ news)) := by
  obtain ⟨a0, c0, rfl⟩ := ownsG_form hown
  have hcap := ownsG_cap hown
  have hl := hs.newsLen
  by_cases hm : m = 0
  · subst hm
    have hnil : news = [] := List.eq_nil_of_length_eq_zero (by rw [hl]; simp)
    subst hnil
    refine ⟨_, w, ?_, .inl ⟨rfl, rfl, rfl⟩, fun h => by omega⟩
    have hc := hs.cells
    rcases hs.kind with ⟨e', hk⟩ | hk
    · cases a0 with
      | none => simp [Builtin.append_, run_underlying ht, run_underlying hk, sizeOf, typeInfo, hi, hs.len, hcap, hc]
      | some a0 => simp [Builtin.append_, run_underlying ht, run_underlying hk, sizeOf, typeInfo, hi, hs.len, hcap, hc, storeCells]
    · cases a0 with
      | none => simp [Builtin.append_, run_underlying ht, run_underlying hk, sizeOf, typeInfo, hi, hs.len, hcap, hc]
      | some a0 => simp [Builtin.append_, run_underlying ht, run_underlying hk, sizeOf, typeInfo, hi, hs.len, hcap, hc, storeCells]
  · have hlen : (xs ++ news).length = (n + m) * i.size := by rw [List.length_append, hown.1, hl, Nat.add_mul]
    have grown : ∀ (old : Nat), old < n + m →
        (w.drew.alloc (.cells ((xs ++ news).toArray ++ Builtin.zeroCells z.cells (grownCap w (n + m) old e - (n + m))) e)).ownsRow base e i.size
          (.slice (some ⟨w.heap.size, 0, none⟩) (n + m) (grownCap w (n + m) old e)) (n + m) (xs ++ news) ∧
        w.grownBy (w.drew.alloc (.cells ((xs ++ news).toArray ++ Builtin.zeroCells z.cells (grownCap w (n + m) old e - (n + m))) e)) none := by
      intro old ho
      have hge := grownCap_ge w (n + m) old e
      have hcm : grownCap w (n + m) old e ≤ maxLen := grownCap_le_maxLen w (n + m) old e (by unfold maxLen; exact h63)
      refine ⟨⟨hlen, .inr ⟨w.heap.size, _, _, rfl, hbase, heap_alloc_new w.drew _, hge, hcm, ?_, ?_⟩⟩, ⟨rfl, rfl, rfl, by simp, fun k hk _ => Below.heap_alloc w.drew _ k (by simpa using hk)⟩⟩
      · simp only [Array.size_append, List.size_toArray, size_zeroCells, hzs, hlen, ← Nat.add_mul]
        congr 1
        omega
      · simp only [Array.toList_append]
        rw [← hlen]
        exact List.take_left
    have key : ∀ (hgrow : c0 < n + m), (Builtin.firstCells i.size n (.slice a0 n c0)).run P w.drew = .ok xs.toArray w.drew → (w.ownsRow base e i.size (.slice a0 n c0) n xs → True) → ∃ v' w', (Builtin.append_ #[t, tx] ty #[.slice a0 n c0, x]).run P w = .ok v' w' ∧ ((m = 0 ∧ v' = .slice a0 n c0 ∧ w' = w) ∨ (0 < m ∧ Appended w w' base e i.size n m (.slice a0 n c0) v' (xs ++ news))) ∧
        (0 < m → w.ownsRow base e i.size (.slice a0 n c0) n xs → w'.ownsRow base e i.size v' (n + m) (xs ++ news)) := fun hgrow hold _ => by
      have hr := run_append_grow_src (P := P) w t tx ty e i z ht hi hz a0 n c0 xs hold x m news hs hgrow (by omega) (growslice_fits hgrow hbytes)
      have hgr := grown c0 hgrow
      exact ⟨_, _, hr, .inr ⟨by omega, ownsG.of hgr.1, (Below.refl _ _).grown hgr.2 hbase (by simp), .inr ⟨rfl, by simp, hgr.2⟩⟩, fun _ _ => hgr.1⟩
    rcases hown.2 with ⟨hv, rfl⟩ | ⟨g, cap, cur, fz, hv, hbg, hg, hnc, hcm, hcs, htake, hfz⟩
    · cases hv
      have hx : xs = [] := List.eq_nil_of_length_eq_zero (by simpa using hown.1)
      subst hx
      exact key (by omega) (run_firstCells_none w.drew i.size 0 0 0) fun _ => trivial
    · cases hv
      by_cases hroom : n + m ≤ c0
      · have hfit : n * i.size + news.length ≤ cur.size := by rw [hl, hcs, ← Nat.add_mul]; exact Nat.mul_le_mul_right _ hroom
        have hr := run_append_roomS (P := P) w t tx ty e i ht hi g n c0 cur fz hg hfz x m news hs hroom hfit
        have hgb : w.grownBy (w.setRow g (cur.toList.take (n * i.size) ++ news ++ cur.toList.drop (n * i.size + news.length)).toArray) (some g) := ⟨rfl, rfl, rfl, by simp, fun k _ hk => setRow_other w g k _ (fun e => hk (by simp [e]))⟩
        have hs1 : (cur.toList.take (n * i.size) ++ news ++ cur.toList.drop (n * i.size + news.length)).toArray.size = cur.size := by
          simp only [List.size_toArray, List.length_append, List.length_take, List.length_drop, Array.length_toList]
          omega
        have hs2 : (cur.toList.take (n * i.size) ++ news ++ cur.toList.drop (n * i.size + news.length)).toArray.toList.take ((n + m) * i.size) = xs ++ news := by
          rw [htake, ← hlen]
          exact List.take_left
        refine ⟨_, _, hr, .inr ⟨by omega, ⟨hlen, .inr ⟨g, c0, _, fz, rfl, hbg, setRow_heap w g cur _ e _ hg, hroom, hcm, hs1.trans hcs, hs2, ?_⟩⟩, (Below.refl _ _).grown hgb hbase (by simp; exact hbg), .inl ⟨g, rfl, rfl, hgb⟩⟩, fun _ hR => ⟨hlen, .inr ⟨g, c0, _, rfl, hbg, setRow_heap w g cur _ e _ ?_, hroom, hcm, hs1.trans hcs, hs2⟩⟩⟩
        · rw [hs1]
          rcases hfz with hfz | hfz
          · exact .inl (Nat.le_trans hfz (Nat.mul_le_mul_right _ (Nat.le_add_right n m)))
          · exact .inr hfz
        · rcases hR.2 with ⟨hv, _⟩ | ⟨g', cap', cur', hv, _, hg', _⟩
          · cases hv
          · cases hv
            rw [hg] at hg'
            have := Option.some.inj hg'
            injection this with e1 _ e3
            rw [hg, e3]
      · exact key (by omega) (run_firstCells_some w.drew i.size n ⟨g, 0, none⟩ n c0 xs hown.1 (fun j u hu => by rw [World.cell?_drew]; exact hown.cells (g := g) rfl j u hu)) fun _ => trivial
end

end Go.Proofs.Lh

set_option linter.unusedVariables false
namespace Go.Proofs.Lh
open Go Go.Ab Go.Bb Go.RowKit Go.Proofs.Lg

def self (b : Nat) : Value := .pointer (some ⟨b, 0, none⟩)

set_option maxHeartbeats 1000000 in
set_option maxRecDepth 100000 in
theorem copyCheck_used (b : Nat) (w : World) (h0 : w.cell? ⟨b, 0, none⟩ = some (.pointer (some ⟨b, 0, none⟩))) :
    Calls Tryz.prog 258 #[.pointer (some ⟨b, 0, none⟩)] w fun e w' => e = .returned (.tuple #[]) ∧ w' = w := by
  obtain ⟨j, hj⟩ : ∃ j, Tryz.prog.info? 301 = some j := Option.isSome_iff_exists.1 (show (Tryz.prog.info? 301).isSome = true by kernel_rfl)
  go_enter Tryz.func258, Tryz.ntmps258
  go_wp2
  rw [Go.Lib.run_neq_ptr_same w _ Tryz.underlying299 hj]
  go_wp2
  go_end0
  exact ⟨rfl, rfl⟩

set_option maxHeartbeats 1000000 in
set_option maxRecDepth 100000 in
theorem copyCheck_fresh (b : Nat) (w : World) (h0 : w.cell? ⟨b, 0, none⟩ = some (.pointer none)) (hsh : w.shape? b = some (301, 2)) (hfz : w.frozen? ⟨b, 0, none⟩ = false) :
    Calls Tryz.prog 258 #[.pointer (some ⟨b, 0, none⟩)] w fun e w' => e = .returned (.tuple #[]) ∧ w' = w.setCell ⟨b, 0, none⟩ (.pointer (some ⟨b, 0, none⟩)) := by
  obtain ⟨j, hj, hjs⟩ : ∃ j, Tryz.prog.info? 301 = some j ∧ j.size = 2 := Option.map_eq_some_iff.1 (show (Tryz.prog.info? 301).map (·.size) = some 2 by kernel_rfl)
  have hlies : liesAt Tryz.prog Tryz.prog.depth 301 (2 / Tryz.prog.cellsOf 301) 0 301 1 = true := by kernel_rfl
  go_enter Tryz.func258, Tryz.ntmps258
  go_wp2
  rw [Go.Lib.run_to_unsafe w ⟨b, 0, none⟩ Tryz.underlying299 Tryz.underlying320 hj (by rw [hjs]; decide) hsh (Nat.zero_lt_succ 1)]
  simp only [Result.andThen]
  rw [Oper.upon_value]
  go_wp2
  rw [run_callFunc_extern Tryz.func260 (by kernel_rfl) (by kernel_rfl) (by kernel_rfl) (e := Extern.AbiNoEscape.same) (by kernel_rfl)]
  rw [Go.Lib.run_noEscape]
  simp only [Result.andThen]
  rw [Oper.upon_value]
  go_wp2
  rw [Go.Lib.run_from_unsafe w ⟨b, 0, none⟩ Tryz.underlying320 Tryz.underlying299 hj hsh hlies]
  simp only [Result.andThen]
  rw [Oper.upon_value]
  go_wp2
  go_end0
  exact ⟨rfl, rfl⟩
end Go.Proofs.Lh
