/-
  Part BbE of this claim's proof. Joined by merge.py from the texts of wip/tpl.
-/
import Derived.Test.YtjlnniaknfpgiaaGreatDoorGF
import Derived.DeepKeys
set_option linter.unusedVariables false
set_option linter.unusedSimpArgs false
set_option linter.unnecessarySimpa false
namespace Go.Bb
open Go Go.RowKit Go.Ab

/-- What a type's cells are, where all can be compared. -/
def leafS (P : Program) : Nat → TypeId → Option (List SK)
  | 0, _ => none
  | d + 1, t =>
    match P.underlying t with
    | some (.int _) => if P.cellsOf t = 1 ∧ (P.info? t).isSome = true then some [.i] else none
    | some .string => if P.cellsOf t = 1 ∧ (P.info? t).isSome = true then some [.s] else none
    | some .bool => if P.cellsOf t = 1 ∧ (P.info? t).isSome = true then some [.b] else none
    | some (.array n e) => match leafS P d e with
      | some ks => if (ks.length = P.cellsOf e ∧ n * ks.length = P.cellsOf t) ∧ (P.info? t).isSome = true ∧ (P.info? e).isSome = true then some (List.replicate n ks).flatten else none
      | none => none
    | some (.struct fs) =>
      if fs.all (·.name != "_") = true ∧ P.stoodInHeld t = false ∧ (P.info? t).isSome = true then
        match fs.toList.mapM fun f => leafS P d f.type with
        | some kss => if kss.map List.length = fs.toList.map (fun f => P.cellsOf f.type) ∧ offsOk fs.toList kss 0 = true ∧ kss.flatten.length = P.cellsOf t then some kss.flatten else none
        | none => none
      else none
    | _ => none
where
  offsOk : List Field → List (List SK) → Nat → Bool
    | f :: fs, ks :: kss, off => decide (f.offset = off) && offsOk fs kss (off + ks.length)
    | _, _, _ => true

theorem eqKs_len : ∀ {ks : List SK} {us vs : List Value} {b : Bool}, eqKs ks us vs = some b → us.length = ks.length ∧ vs.length = ks.length
  | [], [], [], _, _ => ⟨rfl, rfl⟩
  | .i :: ks, .int k a :: us, .int k' c :: vs, b, h => by
    unfold eqKs at h
    split at h
    · obtain ⟨r, h', _⟩ := Option.map_eq_some_iff.1 h
      have := eqKs_len h'; simp [this.1, this.2]
    · cases h
  | .s :: ks, .string a :: us, .string c :: vs, b, h => by
    unfold eqKs at h
    obtain ⟨r, h', _⟩ := Option.map_eq_some_iff.1 h
    have := eqKs_len h'; simp [this.1, this.2]
  | .b :: ks, .bool a :: us, .bool c :: vs, b, h => by
    unfold eqKs at h
    obtain ⟨r, h', _⟩ := Option.map_eq_some_iff.1 h
    have := eqKs_len h'; simp [this.1, this.2]
  | [], _ :: _, _, _, h => by simp [eqKs] at h
  | [], [], _ :: _, _, h => by simp [eqKs] at h
  | k :: ks, [], _, _, h => by cases k <;> simp [eqKs] at h
  | k :: ks, u :: us, [], _, h => by cases k <;> simp [eqKs] at h

theorem eqKs_append : ∀ {k1 k2 : List SK} {us vs : List Value} {b : Bool}, eqKs (k1 ++ k2) us vs = some b →
    ∃ b1 b2, eqKs k1 (us.take k1.length) (vs.take k1.length) = some b1 ∧ eqKs k2 (us.drop k1.length) (vs.drop k1.length) = some b2 ∧ b = (b1 && b2)
  | [], k2, us, vs, b, h => ⟨true, b, by simp [eqKs], by simpa using h, by simp⟩
  | .i :: k1, k2, .int k a :: us, .int k' c :: vs, b, h => by
    rw [List.cons_append, eqKs] at h
    split at h
    · rename_i hk
      obtain ⟨r, h', rfl⟩ := Option.map_eq_some_iff.1 h
      obtain ⟨b1, b2, e1, e2, rfl⟩ := eqKs_append h'
      refine ⟨(a == c) && b1, b2, ?_, by simpa using e2, by simp [Bool.and_assoc]⟩
      rw [List.length_cons, List.take_succ_cons, List.take_succ_cons, eqKs, if_pos hk, e1]; rfl
    · cases h
  | .s :: k1, k2, .string a :: us, .string c :: vs, b, h => by
    rw [List.cons_append, eqKs] at h
    obtain ⟨r, h', rfl⟩ := Option.map_eq_some_iff.1 h
    obtain ⟨b1, b2, e1, e2, rfl⟩ := eqKs_append h'
    refine ⟨(a.toList == c.toList) && b1, b2, ?_, by simpa using e2, by simp [Bool.and_assoc]⟩
    rw [List.length_cons, List.take_succ_cons, List.take_succ_cons, eqKs, e1]; rfl
  | .b :: k1, k2, .bool a :: us, .bool c :: vs, b, h => by
    rw [List.cons_append, eqKs] at h
    obtain ⟨r, h', rfl⟩ := Option.map_eq_some_iff.1 h
    obtain ⟨b1, b2, e1, e2, rfl⟩ := eqKs_append h'
    refine ⟨(a == c) && b1, b2, ?_, by simpa using e2, by simp [Bool.and_assoc]⟩
    rw [List.length_cons, List.take_succ_cons, List.take_succ_cons, eqKs, e1]; rfl
  | k :: k1, _, [], _, _, h => by cases k <;> simp [eqKs] at h
  | k :: k1, _, u :: us, [], _, h => by cases k <;> simp [eqKs] at h

section
variable {P : Program}

/-- The value with these cells. -/
def valC (P : Program) (t : TypeId) (us : List Value) : Value := match P.underlying t with
  | some (.struct _) => .agg us.toArray
  | some (.array _ _) => .agg us.toArray
  | _ => us.headD undef

theorem run_isAgg {w : World} {t : TypeId} {d : TypeDesc} (h : P.underlying t = some d) : (isAgg t).run P w = .ok d.isRow w := by
  unfold isAgg
  simp only [Sem.run_bind, run_underlying h, Result.andThen_ok]
  cases d <;> rfl

theorem leafS_info : ∀ {d : Nat} {t : TypeId} {ks : List SK}, leafS P d t = some ks → ∃ i, P.info? t = some i ∧ i.size = ks.length ∧ P.cellsOf t = ks.length
  | 0, t, ks, h => by simp [leafS] at h
  | d + 1, t, ks, h => by
    have fin : (P.info? t).isSome = true → P.cellsOf t = ks.length → ∃ i, P.info? t = some i ∧ i.size = ks.length ∧ P.cellsOf t = ks.length := fun h1 h2 => by
      obtain ⟨i, hi⟩ := Option.isSome_iff_exists.1 h1
      refine ⟨i, hi, ?_, h2⟩
      unfold Program.cellsOf at h2
      rw [hi] at h2
      simpa using h2
    unfold leafS at h
    split at h
    · split at h
      · rename_i hc; obtain rfl := Option.some.inj h; exact fin hc.2 hc.1
      · cases h
    · split at h
      · rename_i hc; obtain rfl := Option.some.inj h; exact fin hc.2 hc.1
      · cases h
    · split at h
      · rename_i hc; obtain rfl := Option.some.inj h; exact fin hc.2 hc.1
      · cases h
    · split at h
      · split at h
        · rename_i hc
          obtain rfl := Option.some.inj h
          exact fin hc.2.1 (by rw [← hc.1.2]; simp)
        · cases h
      · cases h
    · split at h
      · rename_i hc
        split at h
        · split at h
          · rename_i hc2
            obtain rfl := Option.some.inj h
            exact fin hc.2.2 hc2.2.2.symm
          · cases h
        · cases h
      · cases h
    · cases h

theorem run_partS {w : World} {d : Nat} {t : TypeId} {ks : List SK} (h : leafS P d t = some ks) {cs : Array Value} {off : Nat} (hl : off + ks.length ≤ cs.size) : (part t cs off).run P w = .ok (valC P t ((cs.toList.drop off).take ks.length)) w := by
  obtain ⟨i, hi, hsz, hc⟩ := leafS_info h
  have hex : cs.extract off (off + ks.length) = ((cs.toList.drop off).take ks.length).toArray := by
    apply Array.ext'; simp [List.take_drop]
  cases d with
  | zero => simp [leafS] at h
  | succ d =>
    unfold leafS at h
    unfold valC
    have sc : ∀ td, P.underlying t = some td → td.isRow = false → ks.length = 1 → (part t cs off).run P w = .ok (((cs.toList.drop off).take ks.length).headD undef) w := fun td hu hr h1 => by
      have hlt : off < cs.size := by omega
      have hg : cs[off]? = some cs[off] := Array.getElem?_eq_getElem hlt
      unfold part
      simp only [Sem.run_bind, run_isAgg hu, hr, Result.andThen_ok, Bool.false_eq_true, if_false, hg, Sem.run_pure, h1]
      congr 1
      have : cs.toList.drop off = cs[off] :: cs.toList.drop (off + 1) := by rw [List.drop_eq_getElem_cons (by simpa using hlt)]; simp
      rw [this]; rfl
    have ag : ∀ td, P.underlying t = some td → td.isRow = true → (part t cs off).run P w = .ok (.agg ((cs.toList.drop off).take ks.length).toArray) w := fun td hu hr => by
      unfold part
      simp only [Sem.run_bind, run_isAgg hu, hr, Result.andThen_ok, if_true, sizeOf, typeInfo, run_program, hi, Sem.run_pure, hsz, hex]
    split at h
    · rename_i q hu; rw [hu]; split at h
      · obtain rfl := Option.some.inj h; exact sc _ hu rfl rfl
      · cases h
    · rename_i hu; rw [hu]; split at h
      · obtain rfl := Option.some.inj h; exact sc _ hu rfl rfl
      · cases h
    · rename_i hu; rw [hu]; split at h
      · obtain rfl := Option.some.inj h; exact sc _ hu rfl rfl
      · cases h
    · rename_i n e hu; rw [hu]; exact ag _ hu rfl
    · rename_i fs hu; rw [hu]; exact ag _ hu rfl
    · cases h

def EqS (P : Program) (m : Nat) (t : TypeId) (ks : List SK) : Prop := ∀ (w : World) (us vs : List Value) (b : Bool), eqKs ks us vs = some b → (Op.equalIn m t (valC P t us) (valC P t vs)).run P w = .ok b w

theorem run_eqFieldsS {w : World} {d m : Nat} (xs ys : Array Value) : ∀ (fs : List Field) (kss : List (List SK)) (off : Nat) (b : Bool), (∀ f ∈ fs, f.name ≠ "_") → (∀ f ∈ fs, ∀ ks, leafS P d f.type = some ks → EqS P m f.type ks) →
    fs.mapM (fun f => leafS P d f.type) = some kss → leafS.offsOk fs kss off = true → off + kss.flatten.length ≤ xs.size → off + kss.flatten.length ≤ ys.size → eqKs kss.flatten ((xs.toList.drop off).take kss.flatten.length) ((ys.toList.drop off).take kss.flatten.length) = some b → (Op.eqFields m xs ys fs).run P w = .ok b w
  | [], kss, off, b, _, _, h1, _, _, _, h => by
    obtain rfl : kss = [] := by simpa using h1.symm
    simp [eqKs] at h
    subst h
    simp [Op.eqFields]
  | f :: fs, kss, off, b, hn, hE, h1, h2, hx, hy, h => by
    rw [List.mapM_cons] at h1
    cases hk : leafS P d f.type with
    | none => rw [hk] at h1; cases h1
    | some ks =>
      cases hm : fs.mapM fun f => leafS P d f.type with
      | none => rw [hk, hm] at h1; cases h1
      | some kss' =>
        rw [hk, hm] at h1
        obtain rfl : ks :: kss' = kss := Option.some.inj h1
        simp only [leafS.offsOk, Bool.and_eq_true, decide_eq_true_eq] at h2
        rw [List.flatten_cons, List.length_append] at hx hy
        rw [List.flatten_cons] at h
        obtain ⟨b1, b2, e1, e2, rfl⟩ := eqKs_append h
        rw [List.take_take, List.take_take, Nat.min_eq_left (by simp)] at e1
        rw [List.drop_take, List.drop_take, List.drop_drop, List.drop_drop, List.length_append, Nat.add_sub_cancel_left] at e2
        have p1 := run_partS (w := w) hk (cs := xs) (off := off) (by omega)
        have p2 := run_partS (w := w) hk (cs := ys) (off := off) (by omega)
        have q := hE f (by simp) ks hk w _ _ _ e1
        have r := run_eqFieldsS (w := w) xs ys fs kss' (off + ks.length) b2 (fun g hg => hn g (by simp [hg])) (fun g hg => hE g (by simp [hg])) hm h2.2 (by omega) (by omega) e2
        have hne := hn f (by simp)
        simp only [Op.eqFields, ne_eq, hne, not_false_eq_true, if_true, Sem.run_bind, h2.1, p1, p2, q, Result.andThen_ok]
        cases b1 with
        | true => simpa using r
        | false => simp

theorem run_eqItemsS {w : World} {d m : Nat} {e : TypeId} {ks : List SK} (hk : leafS P d e = some ks) (hE : EqS P m e ks) (xs ys : Array Value) : ∀ (n i : Nat) (b : Bool), (i + n) * ks.length ≤ xs.size → (i + n) * ks.length ≤ ys.size →
    eqKs (List.replicate n ks).flatten ((xs.toList.drop (i * ks.length)).take (n * ks.length)) ((ys.toList.drop (i * ks.length)).take (n * ks.length)) = some b → (Op.eqItems m e ks.length xs ys (List.range' i n)).run P w = .ok b w
  | 0, i, b, _, _, h => by
    simp [eqKs] at h
    subst h
    simp [Op.eqItems]
  | n + 1, i, b, hx, hy, h => by
    rw [List.replicate_succ, List.flatten_cons] at h
    obtain ⟨b1, b2, e1, e2, rfl⟩ := eqKs_append h
    have hmul : (n + 1) * ks.length = ks.length + n * ks.length := by rw [Nat.add_mul, Nat.one_mul, Nat.add_comm]
    have hmul2 : (i + (n + 1)) * ks.length = i * ks.length + (ks.length + n * ks.length) := by rw [Nat.add_mul, hmul]
    have hmul3 : (i + 1) * ks.length = i * ks.length + ks.length := by rw [Nat.add_mul, Nat.one_mul]
    rw [List.take_take, List.take_take, Nat.min_eq_left (by omega)] at e1
    rw [List.drop_take, List.drop_take, List.drop_drop, List.drop_drop, hmul, Nat.add_sub_cancel_left, ← hmul3] at e2
    have p1 := run_partS (w := w) hk (cs := xs) (off := i * ks.length) (by omega)
    have p2 := run_partS (w := w) hk (cs := ys) (off := i * ks.length) (by omega)
    have q := hE w _ _ _ e1
    have hmul4 : (i + 1 + n) * ks.length = i * ks.length + (ks.length + n * ks.length) := by rw [← hmul2]; congr 1; omega
    have r := run_eqItemsS (w := w) hk hE xs ys n (i + 1) b2 (by omega) (by omega) e2
    rw [List.range'_succ]
    simp only [Op.eqItems, Sem.run_bind, p1, p2, q, Result.andThen_ok]
    cases b1 with
    | true => simpa using r
    | false => simp

theorem equalIn_ok : ∀ (d m : Nat) (t : TypeId) (ks : List SK), d ≤ m → leafS P d t = some ks → EqS P m t ks
  | 0, _, _, _, _, h => by simp [leafS] at h
  | d + 1, 0, _, _, hm, _ => by omega
  | d + 1, m + 1, t, ks, hm, h => by
    intro w us vs b hb
    obtain ⟨l1, l2⟩ := eqKs_len hb
    unfold leafS at h
    unfold valC
    split at h
    · rename_i q hu
      split at h
      · obtain rfl := Option.some.inj h
        rw [hu]
        match us, vs, hb with
        | [.int k x], [.int k' y], hb =>
          simp [eqKs] at hb
          obtain ⟨rfl, rfl⟩ := hb
          exact run_equalIn_int w m t k q x y hu
        | .int _ _ :: _ :: _, _, hb => simp at l1
        | [.int _ _], .int _ _ :: _ :: _, hb => simp at l2
      · cases h
    · rename_i hu
      split at h
      · obtain rfl := Option.some.inj h
        rw [hu]
        match us, vs, hb with
        | [.string x], [.string y], hb =>
          simp [eqKs] at hb
          obtain rfl := hb
          exact run_equalIn_string w m t x y hu
        | .string _ :: _ :: _, _, hb => simp at l1
        | [.string _], .string _ :: _ :: _, hb => simp at l2
      · cases h
    · rename_i hu
      split at h
      · obtain rfl := Option.some.inj h
        rw [hu]
        match us, vs, hb with
        | [.bool x], [.bool y], hb =>
          simp [eqKs] at hb
          obtain rfl := hb
          exact run_equalIn_bool w m t x y hu
        | .bool _ :: _ :: _, _, hb => simp at l1
        | [.bool _], .bool _ :: _ :: _, hb => simp at l2
      · cases h
    · rename_i n e hu
      rw [hu]
      split at h
      · rename_i ke he
        split at h
        · rename_i hc
          obtain rfl := Option.some.inj h
          obtain ⟨ie, hie⟩ := Option.isSome_iff_exists.1 hc.2.2
          have hfl : (List.replicate n ke).flatten.length = n * ke.length := by simp
          dsimp only
          rw [run_equalIn_array w m us.toArray vs.toArray hu hie, ← hc.1.1, List.range_eq_range']
          refine run_eqItemsS he (equalIn_ok d m e ke (by omega) he) us.toArray vs.toArray n 0 b (by simp; omega) (by simp; omega) ?_
          rw [Nat.zero_mul, List.drop_zero, List.drop_zero, List.take_of_length_le (by simp; omega), List.take_of_length_le (by simp; omega)]
          exact hb
        · cases h
      · cases h
    · rename_i fs hu
      rw [hu]
      split at h
      · rename_i hn
        split at h
        · rename_i kss hk
          split at h
          · rename_i hc
            obtain rfl := Option.some.inj h
            have hfs : P.fieldsOf t = fs := by simp [Program.fieldsOf, hu]
            dsimp only
            rw [run_equalIn_struct w m t us.toArray vs.toArray (by rw [hfs]; exact hu) hn.2.1, hfs]
            refine run_eqFieldsS us.toArray vs.toArray fs.toList kss 0 b (fun f hf => ?_) (fun f _ ks' hk' => equalIn_ok d m f.type ks' (by omega) hk') hk hc.2.1 (by rw [List.size_toArray, Nat.zero_add, l1]; exact Nat.le_refl _) (by rw [List.size_toArray, Nat.zero_add, l2]; exact Nat.le_refl _) ?_
            · have := Array.all_eq_true_iff_forall_mem.1 hn.1 f (Array.mem_toList_iff.1 hf)
              simpa using this
            · rw [List.drop_zero, List.drop_zero, List.take_of_length_le (Nat.le_of_eq l1), List.take_of_length_le (Nat.le_of_eq l2)]
              exact hb
          · cases h
        · cases h
      · cases h
    · cases h
end
end Go.Bb
