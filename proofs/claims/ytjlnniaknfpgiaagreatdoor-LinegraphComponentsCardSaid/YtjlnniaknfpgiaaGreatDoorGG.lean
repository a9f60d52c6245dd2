/-
  Part GG of this claim's proof. Joined by merge.py from the texts of wip/tpl.
-/
import Derived.Test.YtjlnniaknfpgiaaGreatDoorBb10
set_option linter.unusedVariables false
set_option linter.unusedSimpArgs false
set_option linter.unnecessarySimpa false
set_option linter.unusedVariables false
namespace Go.Bb
open Go Go.RowKit Go.Ab Go.Proofs.Lg

section
variable {LL : Nat → Code → CC → Prop} {P : Program} {o : Oper} {fr : Fr} {s s' : List AObj} {d : AV}

theorem keyV_valC (kt : TypeId) (us : List Value) : keyV (isAggT P kt) us = valC P kt us := by
  unfold keyV isAggT valC
  cases hu : P.underlying kt with
  | none => rfl
  | some td => cases td <;> rfl

/-- Cells that can be compared. -/
def simpleV : Value → Bool
  | .int _ _ => true
  | .string _ => true
  | .bool _ => true
  | _ => false
theorem eqKs_simple : ∀ {ks : List SK} {us vs : List Value} {b : Bool}, eqKs ks us vs = some b → (∀ u ∈ us, simpleV u = true) ∧ ∀ v ∈ vs, simpleV v = true
  | [], [], [], _, _ => by simp
  | .i :: ks, .int k a :: us, .int k' c :: vs, b, h => by
    unfold eqKs at h
    split at h
    · obtain ⟨r, h', _⟩ := map_inv h
      have := eqKs_simple h'
      exact ⟨by simpa [simpleV] using this.1, by simpa [simpleV] using this.2⟩
    · cases h
  | .s :: ks, .string a :: us, .string c :: vs, b, h => by
    unfold eqKs at h
    obtain ⟨r, h', _⟩ := map_inv h
    have := eqKs_simple h'
    exact ⟨by simpa [simpleV] using this.1, by simpa [simpleV] using this.2⟩
  | .b :: ks, .bool a :: us, .bool c :: vs, b, h => by
    unfold eqKs at h
    obtain ⟨r, h', _⟩ := map_inv h
    have := eqKs_simple h'
    exact ⟨by simpa [simpleV] using this.1, by simpa [simpleV] using this.2⟩
  | [], _ :: _, _, _, h => by simp [eqKs] at h
  | [], [], _ :: _, _, h => by simp [eqKs] at h
  | k :: ks, [], _, _, h => by cases k <;> simp [eqKs] at h
  | k :: ks, u :: us, [], _, h => by cases k <;> simp [eqKs] at h
theorem eqKs_true : ∀ {ks : List SK} {us vs : List Value}, eqKs ks us vs = some true → us = vs
  | [], [], [], _ => rfl
  | .i :: ks, .int k a :: us, .int k' c :: vs, h => by
    unfold eqKs at h
    split at h
    · rename_i hk
      subst hk
      obtain ⟨r, h', hb⟩ := map_inv h
      simp only [Bool.and_eq_true, beq_iff_eq] at hb
      obtain ⟨rfl, rfl⟩ := hb
      rw [eqKs_true h']
    · cases h
  | .s :: ks, .string a :: us, .string c :: vs, h => by
    unfold eqKs at h
    obtain ⟨r, h', hb⟩ := map_inv h
    simp only [Bool.and_eq_true, beq_iff_eq] at hb
    obtain ⟨ha, rfl⟩ := hb
    rw [ByteArray.toList_eq, ByteArray.toList_eq] at ha
    rw [eqKs_true h', ByteArray.ext (Array.toList_inj.mp ha)]
  | .b :: ks, .bool a :: us, .bool c :: vs, h => by
    unfold eqKs at h
    obtain ⟨r, h', hb⟩ := map_inv h
    simp only [Bool.and_eq_true, beq_iff_eq] at hb
    obtain ⟨rfl, rfl⟩ := hb
    rw [eqKs_true h']
  | [], _ :: _, _, h => by simp [eqKs] at h
  | [], [], _ :: _, h => by simp [eqKs] at h
  | k :: ks, [], _, h => by cases k <;> simp [eqKs] at h
  | k :: ks, u :: us, [], h => by cases k <;> simp [eqKs] at h

theorem sameBits_simple (n : Nat) {u : Value} (h : simpleV u = true) : Instr.sameBits n u u = true := by
  cases u <;> simp [simpleV] at h <;> cases n <;> simp [Instr.sameBits, beq_toListBytes]
theorem sameBits_key {ag : Bool} {us : List Value} (h : ∀ u ∈ us, simpleV u = true) (hne : ag = false → us ≠ []) : Instr.sameBits 10000 (keyV ag us) (keyV ag us) = true := by
  cases ag with
  | true =>
    show Instr.sameBits (9999 + 1) (.agg us.toArray) (.agg us.toArray) = true
    rw [Instr.sameBits]
    simp only [beq_self_eq_true, Bool.true_and, List.all_eq_true]
    rintro ⟨x, y⟩ hxy
    have : x = y ∧ x ∈ us := by
      have h1 : (us.zip us) = us.map fun u => (u, u) := by
        clear h hne hxy
        induction us with
        | nil => rfl
        | cons u us ih => simp [ih]
      simp only [h1] at hxy
      obtain ⟨u, hu, he⟩ := List.mem_map.1 hxy
      cases he
      exact ⟨rfl, hu⟩
    obtain ⟨rfl, hx⟩ := this
    exact sameBits_simple _ (h x hx)
  | false =>
    cases us with
    | nil => exact absurd rfl (hne rfl)
    | cons u us => exact sameBits_simple _ (h u (by simp))

/-- No key of such a type is refused. -/
theorem checkKey_ok {em : Bool} {w : World} : ∀ (d m : Nat) (t : TypeId) (ks : List SK), d ≤ m → leafS P d t = some ks → ∀ us : List Value, us.length = ks.length → (Instr.checkKey em m t (valC P t us)).run P w = .ok () w
  | 0, _, _, _, _, h => by simp [leafS] at h
  | d + 1, 0, _, _, hm, _ => by omega
  | d + 1, m + 1, t, ks, hm, h => by
    intro us hl
    have sc : ∀ td v, P.underlying t = some td → (match td with | .int _ | .string | .bool => True | _ => False) → (Instr.checkKey em (m + 1) t v).run P w = .ok () w := fun td v hu ht => by
      unfold Instr.checkKey
      simp only [Sem.run_bind, run_underlying hu, Result.andThen_ok]
      cases td <;> first | exact ht.elim | rfl
    unfold leafS at h
    split at h
    · rename_i q hu; exact sc _ _ hu trivial
    · rename_i hu; exact sc _ _ hu trivial
    · rename_i hu; exact sc _ _ hu trivial
    · rename_i n e hu
      have hv : valC P t us = .agg us.toArray := by unfold valC; rw [hu]
      rw [hv]
      split at h
      · rename_i ke he
        split at h
        · rename_i hc
          obtain rfl := Option.some.inj h
          obtain ⟨ie, hie⟩ := Option.isSome_iff_exists.1 hc.2.2
          obtain ⟨_, hi2, hsz, _⟩ := leafS_info he
          rw [hie] at hi2; cases hi2
          have hfl : (List.replicate n ke).flatten.length = n * ke.length := by simp
          unfold Instr.checkKey
          simp only [Sem.run_bind, run_underlying hu, Result.andThen_ok]
          simp only [Std.Legacy.Range.forIn_eq_forIn_range', Std.Legacy.Range.size, Nat.sub_zero, Nat.add_one_sub_one, Nat.div_one]
          have key : ∀ (is : List Nat), (∀ i ∈ is, i < n) → (forIn is PUnit.unit (fun i _ => do
              let x ← sizeOf e
              let x ← part e us.toArray (i * x)
              Instr.checkKey em m e x
              pure (ForInStep.yield PUnit.unit)) : Sem PUnit).run P w = .ok PUnit.unit w := by
            intro is
            induction is with
            | nil => intro _; simp
            | cons i is ih =>
              intro hi
              have hin := hi i (by simp)
              have hoff : i * ke.length + ke.length ≤ us.toArray.size := by
                have : (i + 1) * ke.length ≤ n * ke.length := Nat.mul_le_mul_right _ hin
                rw [Nat.add_mul, Nat.one_mul] at this
                simp; omega
              have p := run_partS (w := w) he (cs := us.toArray) (off := i * ke.length) hoff
              have c := checkKey_ok (em := em) (w := w) d m e ke (by omega) he ((us.toArray.toList.drop (i * ke.length)).take ke.length) (by simp; simp at hoff; omega)
              simp only [List.forIn_cons, Sem.run_bind, sizeOf, typeInfo, run_program, hie, Sem.run_pure, Result.andThen_ok, hsz, p, c]
              have := ih fun j hj => hi j (by simp [hj])
              simpa only [Sem.run_bind, sizeOf, typeInfo, run_program, hie, Sem.run_pure, Result.andThen_ok, hsz] using this
          have k2 := key (List.range' 0 n) (fun i hi => by simp at hi; omega)
          rw [k2]
          rfl
        · cases h
      · cases h
    · rename_i fs hu
      have hv : valC P t us = .agg us.toArray := by unfold valC; rw [hu]
      rw [hv]
      split at h
      · rename_i hn
        split at h
        · rename_i kss hk
          split at h
          · rename_i hc
            obtain rfl := Option.some.inj h
            unfold Instr.checkKey
            simp only [Sem.run_bind, run_underlying hu, Result.andThen_ok]
            rw [← Array.forIn_toList]
            have key : ∀ (fl : List Field) (kss : List (List SK)) (off : Nat), fl.mapM (fun f => leafS P d f.type) = some kss → leafS.offsOk fl kss off = true → off + kss.flatten.length ≤ us.length →
                (forIn fl PUnit.unit (fun f _ => do
                  if f.name ≠ "_" then do
                    let x ← part f.type us.toArray f.offset
                    Instr.checkKey em m f.type x
                    pure (ForInStep.yield PUnit.unit)
                  else pure (ForInStep.yield PUnit.unit)) : Sem PUnit).run P w = .ok PUnit.unit w := by
              intro fl
              induction fl with
              | nil => intro _ _ _ _ _; simp
              | cons f fl ih =>
                intro kss off h1 h2 h3
                rw [List.mapM_cons] at h1
                cases hkf : leafS P d f.type with
                | none => rw [hkf] at h1; cases h1
                | some kf =>
                  cases hm2 : fl.mapM fun f => leafS P d f.type with
                  | none => rw [hkf, hm2] at h1; cases h1
                  | some kss' =>
                    rw [hkf, hm2] at h1
                    obtain rfl : kf :: kss' = kss := Option.some.inj h1
                    simp only [leafS.offsOk, Bool.and_eq_true, decide_eq_true_eq] at h2
                    rw [List.flatten_cons, List.length_append] at h3
                    have p := run_partS (w := w) hkf (cs := us.toArray) (off := off) (by simp; omega)
                    have c := checkKey_ok (em := em) (w := w) d m f.type kf (by omega) hkf ((us.toArray.toList.drop off).take kf.length) (by simp; omega)
                    have hr := ih kss' (off + kf.length) hm2 h2.2 (by omega)
                    by_cases hnm : f.name ≠ "_"
                    · simp only [List.forIn_cons, Sem.run_bind, if_pos hnm, h2.1, p, c, Result.andThen_ok, Sem.run_pure]
                      exact hr
                    · simp only [List.forIn_cons, Sem.run_bind, if_neg hnm, Result.andThen_ok, Sem.run_pure]
                      exact hr
            have k2 := key fs.toList kss 0 hk hc.2.1 (by rw [hl]; omega)
            rw [k2]
            rfl
          · cases h
        · cases h
      · cases h
    · cases h

/-- The entries as told. -/
def EntsOk (ag : Bool) (k : Cfg) (w : World) (es : List (List Value × AV)) (l : List MapEntry) : Prop :=
  l.length = es.length ∧ ∀ (i : Nat) (e : MapEntry) (x : List Value × AV), l[i]? = some e → es[i]? = some x → e.key = keyV ag x.1 ∧ RA k w e.val x.2
theorem EntsOk.tail {ag : Bool} {k : Cfg} {w : World} {x : List Value × AV} {es : List (List Value × AV)} {e : MapEntry} {l : List MapEntry} (h : EntsOk ag k w (x :: es) (e :: l)) : EntsOk ag k w es l :=
  ⟨by have := h.1; simpa using this, fun i e' x' he hx => h.2 (i + 1) e' x' he hx⟩

/-- What is found. -/
def FoundOk (k : Cfg) (w : World) (i0 : Nat) (es : List (List Value × AV)) (l : List MapEntry) : Option (Nat × AV) → Option (Nat × Value) → Prop
  | none, none => True
  | some (i, x), some (j, v) => i = j ∧ i0 ≤ i ∧ RA k w v x ∧ ∃ e q, l[i - i0]? = some e ∧ es[i - i0]? = some (q, x) ∧ e.val = v
  | _, _ => False
theorem FoundOk.step {k : Cfg} {w : World} {i0 : Nat} {x : List Value × AV} {es : List (List Value × AV)} {e : MapEntry} {l : List MapEntry} : ∀ {r : Option (Nat × AV)} {q : Option (Nat × Value)}, FoundOk k w (i0 + 1) es l r q → FoundOk k w i0 (x :: es) (e :: l) r q
  | none, none, _ => trivial
  | some (i, y), some (j, v), h => by
    obtain ⟨rfl, h1, h2, e', q, h3, h4, h5⟩ := h
    have hi : i - i0 = (i - (i0 + 1)) + 1 := by omega
    exact ⟨rfl, by omega, h2, e', q, by rw [hi]; exact h3, by rw [hi]; exact h4, h5⟩
  | none, some _, h => h.elim
  | some _, none, h => h.elim

theorem findAsking_ok {ks : List SK} {kt : TypeId} (hk : leafS P 12 kt = some ks) {k : Cfg} {w : World} {key : List Value} : ∀ (es : List (List Value × AV)) (l : List MapEntry) (i : Nat) (r : Option (Nat × AV)), EntsOk (isAggT P kt) k w es l → findE ks key es i = some r →
    ∃ q, (Instr.findAsking kt (valC P kt key) l i).run P w = .ok q w ∧ FoundOk k w i es l r q
  | [], [], i, r, _, h => by
    simp [findE] at h; subst h
    exact ⟨none, by simp [Instr.findAsking], trivial⟩
  | [], e :: l, i, r, he, _ => by have := he.1; simp at this
  | x :: es, [], i, r, he, _ => by have := he.1; simp at this
  | x :: es, e :: l, i, r, he, h => by
    obtain ⟨b, hb, h1⟩ := bind_inv (show ((eqKs ks key x.1).bind fun b => if b = true then some (some (i, x.2)) else findE ks key es (i + 1)) = some r from h)
    obtain ⟨e1, e2⟩ := he.2 0 e x rfl rfl
    have hq : (Op.equal kt (valC P kt key) e.key).run P w = .ok b w := by
      rw [e1, keyV_valC]
      exact equalIn_ok 12 10000 kt ks (by omega) hk w key x.1 b hb
    unfold Instr.findAsking
    simp only [Sem.run_bind, hq, Result.andThen_ok]
    cases b with
    | true =>
      simp only [if_true] at h1 ⊢
      obtain rfl := Option.some.inj h1
      exact ⟨some (i, e.val), rfl, rfl, Nat.le_refl _, e2, e, x.1, by simp, by simp, rfl⟩
    | false =>
      simp only [Bool.false_eq_true, if_false] at h1 ⊢
      obtain ⟨q, hq1, hq2⟩ := findAsking_ok hk es l (i + 1) r he.tail h1
      exact ⟨q, hq1, hq2.step⟩

theorem findNow_ok {ks : List SK} {kt : TypeId} {td : TypeDesc} (hu : P.underlying kt = some td) (hk : leafS P 12 kt = some ks) {k : Cfg} {w : World} {key : List Value} : ∀ (es : List (List Value × AV)) (l : List MapEntry) (i : Nat) (r : Option (Nat × AV)), EntsOk (isAggT P kt) k w es l → findE ks key es i = some r →
    Instr.findNow td (valC P kt key) l i = none ∨ ∃ q, Instr.findNow td (valC P kt key) l i = some q ∧ FoundOk k w i es l r q
  | [], [], i, r, _, h => by
    simp [findE] at h; subst h
    exact .inr ⟨none, rfl, trivial⟩
  | [], e :: l, i, r, he, _ => by have := he.1; simp at this
  | x :: es, [], i, r, he, _ => by have := he.1; simp at this
  | x :: es, e :: l, i, r, he, h => by
    obtain ⟨b, hb, h1⟩ := bind_inv (show ((eqKs ks key x.1).bind fun b => if b = true then some (some (i, x.2)) else findE ks key es (i + 1)) = some r from h)
    obtain ⟨e1, e2⟩ := he.2 0 e x rfl rfl
    have hs : Instr.sameNow td (valC P kt key) e.key = none ∨ Instr.sameNow td (valC P kt key) e.key = some b := by
      rw [e1, keyV_valC]
      unfold leafS at hk
      rw [hu] at hk
      cases td with
      | int q =>
        dsimp only at hk
        split at hk
        · obtain rfl := Option.some.inj hk
          obtain ⟨l1, l2⟩ := eqKs_len hb
          match key, l1, hb with
          | [u], _, hb =>
            generalize hx1 : x.1 = x1 at hb l2
            match x1, l2 with
            | [v], _ =>
              unfold eqKs at hb
              split at hb <;> first | (cases hb; done) | skip
              all_goals first
                | (rename_i h1 h2 h3; cases h1; done)
                | skip
              rename_i h1 h2 h3
              cases h1; cases h2; cases h3
              split at hb
              · rename_i hkk
                subst hkk
                simp [eqKs] at hb
                right
                subst hb
                unfold valC; rw [hu]
                simp [Instr.sameNow]
              · cases hb
        · cases hk
      | string =>
        dsimp only at hk
        split at hk
        · obtain rfl := Option.some.inj hk
          obtain ⟨l1, l2⟩ := eqKs_len hb
          match key, l1, hb with
          | [u], _, hb =>
            generalize hx1 : x.1 = x1 at hb l2
            match x1, l2 with
            | [v], _ =>
              unfold eqKs at hb
              split at hb <;> first | (cases hb; done) | skip
              all_goals first
                | (rename_i h1 h2 h3; cases h1; done)
                | skip
              rename_i h1 h2 h3
              cases h1; cases h2; cases h3
              simp [eqKs] at hb
              right
              subst hb
              unfold valC; rw [hu]
              simp [Instr.sameNow, beq_toListBytes]
        · cases hk
      | bool =>
        dsimp only at hk
        split at hk
        · obtain rfl := Option.some.inj hk
          obtain ⟨l1, l2⟩ := eqKs_len hb
          match key, l1, hb with
          | [u], _, hb =>
            generalize hx1 : x.1 = x1 at hb l2
            match x1, l2 with
            | [v], _ =>
              unfold eqKs at hb
              split at hb <;> first | (cases hb; done) | skip
              all_goals first
                | (rename_i h1 h2 h3; cases h1; done)
                | skip
              rename_i h1 h2 h3
              cases h1; cases h2; cases h3
              simp [eqKs] at hb
              right
              subst hb
              unfold valC; rw [hu]
              simp [Instr.sameNow]
        · cases hk
      | _ => exact .inl rfl
    unfold Instr.findNow
    rcases hs with hs | hs
    · rw [hs]; exact .inl rfl
    · rw [hs]
      cases b with
      | true =>
        simp only [if_true] at h1
        obtain rfl := Option.some.inj h1
        exact .inr ⟨_, rfl, rfl, Nat.le_refl _, e2, e, x.1, by simp, by simp, rfl⟩
      | false =>
        simp only [Bool.false_eq_true, if_false] at h1
        rcases findNow_ok hu hk es l (i + 1) r he.tail h1 with h2 | ⟨q, h2, h3⟩
        · exact .inl h2
        · exact .inr ⟨q, h2, h3.step⟩

theorem findKey_ok {ks : List SK} {kt : TypeId} (hk : leafS P 12 kt = some ks) {k : Cfg} {w : World} {key : List Value} {es : List (List Value × AV)} {l : List MapEntry} {r : Option (Nat × AV)} (he : EntsOk (isAggT P kt) k w es l) (h : findE ks key es 0 = some r) :
    ∃ q, (Instr.findKey kt (valC P kt key) l).run P w = .ok q w ∧ FoundOk k w 0 es l r q := by
  cases hu : P.underlying kt with
  | none => unfold leafS at hk; rw [hu] at hk; cases hk
  | some td =>
    unfold Instr.findKey
    simp only [Sem.run_bind, run_underlying hu, Result.andThen_ok]
    rcases findNow_ok hu hk es l 0 r he h with h1 | ⟨q, h1, h2⟩
    · rw [h1]; exact findAsking_ok hk es l 0 r he h
    · rw [h1]; exact ⟨q, rfl, h2⟩

theorem findE_len {ks : List SK} {key : List Value} : ∀ (es : List (List Value × AV)) (i : Nat) (r : Option (Nat × AV)), findE ks key es i = some r → es = [] ∨ key.length = ks.length
  | [], _, _, _ => .inl rfl
  | x :: es, i, r, h => by
    obtain ⟨b, hb, _⟩ := bind_inv (show ((eqKs ks key x.1).bind fun b => if b = true then some (some (i, x.2)) else findE ks key es (i + 1)) = some r from h)
    exact .inr (eqKs_len hb).1
end
end Go.Bb

set_option linter.unusedVariables false
namespace Go.Bb
open Go Go.RowKit Go.Ab Go.Proofs.Lg

section
variable {LL : Nat → Code → CC → Prop} {P : Program} {o : Oper} {fr : Fr} {s s' : List AObj} {d : AV}

theorem RA.keyK_eq {k : Cfg} {w : World} {v : Value} {x : AV} {ag : Bool} {ks : List SK} {us : List Value} {t : TypeId} (h : RA k w v x) (hx : x.keyK ag ks = some us) (ht : ag = isAggT P t) : v = valC P t us ∧ us.length = ks.length := by
  obtain ⟨us', h1, h2⟩ := bind_inv hx
  split at h2
  · obtain rfl := Option.some.inj h2
    exact ⟨(h.key_eq h1 ht).1, by assumption⟩
  · cases h2

theorem MapOk.ents {ag : Bool} {k : Cfg} {w : World} {es : List (List Value × AV)} {ents : Array MapEntry} {clk : Nat} (h : MapOk ag k w es ents clk) : EntsOk ag k w es ents.toList :=
  ⟨by simpa using h.1, fun i e x he hx => let ⟨h1, h2, _⟩ := h.2.2 i e x (by simpa using he) hx; ⟨h1, h2⟩⟩

/-- A map's cells written. -/
theorem map_upd {B : Nat} {k : Cfg} {w : World} (hst : St LL B k s w) {id b : Nat} {ag : Bool} {es es' : List (List Value × AV)} {ents ents' : Array MapEntry} {clk clk' : Nat} (hid : s[id]? = some (.map ag es)) (hb : k.own[id]? = some (.blk b)) (hh : w.heap[b]? = some (.map ents clk)) (hI : k.I b = 0)
    (hm : Mono k w k (w.putObj b (.map ents' clk')) → MapOk ag k (w.putObj b (.map ents' clk')) es' ents' clk') : Mono k w k (w.putObj b (.map ents' clk')) ∧ Ext B k w k (w.putObj b (.map ents' clk')) ∧ St LL B k (s.set id (.map ag es')) (w.putObj b (.map ents' clk')) := by
  have hlt := heap_lt hh
  have hbB := hst.lies id _ b hb rfl
  have hk : KeepI k.I w k.I (w.putObj b (.map ents' clk')) := fun b' q u hq hc => ⟨hq, by
    have hne : b' ≠ b := by rintro rfl; unfold World.cell? at hc; rw [hh] at hc; cases hc
    exact (World.cell?_of_block (w := w) (World.putObj_heap_other hne)).trans hc⟩
  have hbl : Below B w (w.putObj b (.map ents' clk')) := ⟨rfl, rfl, rfl, by simp, fun j hj => World.putObj_heap_other (by omega)⟩
  refine ⟨mono_same hk, hst.upd (k' := k) hb (.map ag es') (own_set_self hb) (OwnLe.refl _) hk hbl (fun b2 hb2 => by cases hb2; exact ⟨.inl rfl, by simpa using hbB.2, hbB.1⟩)
    (fun b2 _ hne => ⟨World.putObj_heap_other (fun e => hne (by rw [e]; rfl)), rfl⟩) ⟨ents', clk', World.putObj_heap_same hlt, hm (mono_same hk), hI⟩⟩

theorem ok_mkm {t kt et : TypeId} (ho : o.op = .makeMap t none) (h : (CI.mkm (isAggT P kt)).sem fr s = some (d, s')) : AMk LL P o fr s d s' := by
  obtain ⟨rfl, rfl⟩ := Prod.mk.inj (Option.some.inj (show some (AV.mp s.length, s ++ [AObj.map (isAggT P kt) []]) = some (d, s') from h))
  refine ⟨_, rfl, fun s2 _ hn => ?_⟩
  intro B k a w hops hst
  have hb : Below w.heap.size w (w.alloc (.map #[] 0)) := (Below.refl _ _).alloc (Nat.le_refl _) _
  have hh : (w.alloc (.map #[] 0)).heap[w.heap.size]? = some (.map #[] 0) := heap_alloc_new w _
  have hlt := heap_lt hh
  have hI : ∀ b, b < w.heap.size → updI k.I w.heap.size 0 b = k.I b := fun b hb => updI_ne _ _ (by omega)
  obtain ⟨he, hs2⟩ := hst.newAt hb hI hn (.blk w.heap.size) (.map (isAggT P kt) []) (fun b hb => by cases hb; exact ⟨Nat.le_refl _, hlt⟩) fun _ => ⟨#[], 0, hh, ⟨rfl, rfl, fun i e x he _ => by simp at he⟩, updI_self ..⟩
  refine OpWp.value (v := .map (some w.heap.size)) ?_ ⟨_, .mp (fill_own hst hn _), he, hs2⟩
  unfold execOp; rw [ho]
  refine run_value ?_
  simp only [Instr.makeMap, Option.map_none, Sem.run_bind, Sem.run_pure, run_newObj, Result.andThen_ok]
  rfl

/-- The zero of a map's elements. -/
theorem zeroA_ok {e : TypeId} {z : AV} (h : zeroA P e = some z) (k : Cfg) (w : World) : ∃ v, (zeroValue e).run P w = .ok v w ∧ ∀ k w, RA k w v z := by
  unfold zeroA at h
  split at h
  · rename_i i hi
    split at h
    · rename_i v hv
      exact ⟨v, by simp [zeroValue, typeInfo, hi, hv], fun k w => cA_ok h k w⟩
    · cases h
  · cases h

theorem ok_lkp {t kt et : TypeId} {ok : Bool} {p q : Operand} {m x : X} {ks : List SK} {z : AV} (ho : o.op = .lookup t p q ok) (hu : P.underlying t = some (.map kt et)) (hm : cX P t p = some m) (hx : cX P kt q = some x) (hk : leafS P 12 kt = some ks) (hz : zeroA P et = some z)
    (h : (CI.lkp (isAggT P kt) ks z ok m x).sem fr s = some (d, s')) : AOp LL P o fr s d s' := by
  have hp : p ∈ o.op.operands := by rw [ho]; simp [Op.operands]
  have hq : q ∈ o.op.operands := by rw [ho]; simp [Op.operands]
  obtain ⟨hc, rfl⟩ := ret_inv h
  obtain ⟨key, hkey, hc1⟩ := bind_inv hc
  obtain ⟨kv, hkv, hkey1⟩ := bind_inv hkey
  obtain ⟨mv, hmv, hd⟩ := bind_inv hc1
  refine AOp.pure fun B k a w hops hst => ?_
  obtain ⟨hv1, hl⟩ := (ev_ok hops hq hx hkv).keyK_eq (P := P) (t := kt) hkey1 rfl
  obtain ⟨zv, hz1, hz2⟩ := zeroA_ok hz k w
  have hr := ev_ok hops hp hm hmv
  have fin : ∀ (v : Value) (bo : Bool) (dd : AV), RA k w v dd → (Instr.lookup t (a.eval p) (a.eval q) ok).run P w = .ok (if ok then .tuple #[v, .bool bo] else v) w → d = (if ok then .tup [dd, boolD bo] else dd) →
      ∃ v, (execOp a.eval o).run P w = .ok (.value v) w ∧ RA k w v d := fun v bo dd h1 h2 h3 => by
    refine ⟨_, by unfold execOp; rw [ho]; exact run_value h2, ?_⟩
    subst h3
    cases ok with
    | false => exact h1
    | true =>
      refine .tup (us := [v, .bool bo]) rfl fun i u c hu hc => ?_
      match i with
      | 0 => simp at hu hc; subst hu; subst hc; exact h1
      | 1 => simp at hu hc; subst hu; subst hc; exact .d (RD.sc _)
      | i + 2 => simp at hu
  unfold rdLkp at hd
  split at hd
  · rename_i id
    obtain ⟨es, hes, hd1⟩ := bind_inv hd
    obtain ⟨r, hr1, rfl⟩ := map_inv hd1
    obtain ⟨b, hb, hmm⟩ := hr.mp_inv
    obtain ⟨b', ents, clk, g1, g2, g3, _⟩ := hst.map (mapO_inv hes)
    rw [hb] at g1; cases g1
    obtain ⟨fq, hf1, hf2⟩ := findKey_ok hk g3.ents hr1
    have hck : ∀ em, (Instr.checkKey em 10000 kt (a.eval q)).run P w = .ok () w := fun em => by rw [hv1]; exact checkKey_ok 12 10000 kt ks (by omega) hk key hl
    rw [← hv1] at hf1
    have hget : (getObj b).run P w = .ok (.map ents clk) w := by simp [getObj, Sem.run, g2]
    match r, fq, hf2 with
    | none, none, _ =>
      refine fin zv false z (hz2 k w) ?_ rfl
      simp only [Instr.lookup, Sem.run_bind, run_underlying hu, Result.andThen_ok, hmm, hget, Sem.run_pure, hck, hf1, hz1]
    | some (i, y), some (j, v), hf2 =>
      obtain ⟨_, _, h2, _⟩ := hf2
      refine fin v true y h2 ?_ rfl
      simp only [Instr.lookup, Sem.run_bind, run_underlying hu, Result.andThen_ok, hmm, hget, Sem.run_pure, hck, hf1]
  · obtain rfl := Option.some.inj hd
    have hmm := hr.sc_eq (u := .map none) rfl
    have hck : ∀ em, (Instr.checkKey em 10000 kt (a.eval q)).run P w = .ok () w := fun em => by rw [hv1]; exact checkKey_ok 12 10000 kt ks (by omega) hk key hl
    obtain ⟨fq, hf1, hf2⟩ := findKey_ok (P := P) (kt := kt) (ks := ks) (key := key) (k := k) (w := w) (es := []) (l := []) (r := none) hk ⟨rfl, fun i e x he _ => by simp at he⟩ rfl
    rw [← hv1] at hf1
    cases fq with
    | none =>
      refine fin zv false z (hz2 k w) ?_ rfl
      simp only [Instr.lookup, Sem.run_bind, run_underlying hu, Result.andThen_ok, hmm, Sem.run_pure, hck, hf1, hz1]
    | some _ => exact hf2.elim
  · cases hd

/-- The key that stays. -/
theorem keyStays {ag : Bool} {us : List Value} {w : World} (h : ∀ u ∈ us, simpleV u = true) (hne : ag = false → us ≠ []) : (Instr.keyThatStays (keyV ag us) (keyV ag us)).run P w = .ok (keyV ag us) w := by
  simp [Instr.keyThatStays, sameBits_key h hne]

theorem leafS_ne {d : Nat} {t : TypeId} {ks : List SK} (h : leafS P d t = some ks) (ha : isAggT P t = false) : ks ≠ [] := by
  cases d with
  | zero => simp [leafS] at h
  | succ d =>
    unfold leafS at h
    unfold isAggT at ha
    split at h
    · split at h
      · obtain rfl := Option.some.inj h; simp
      · cases h
    · split at h
      · obtain rfl := Option.some.inj h; simp
      · cases h
    · split at h
      · obtain rfl := Option.some.inj h; simp
      · cases h
    · rename_i hu; rw [hu] at ha; cases ha
    · rename_i hu; rw [hu] at ha; cases ha
    · cases h

theorem findE_hit {ks : List SK} {key : List Value} : ∀ (es : List (List Value × AV)) (i0 i : Nat) (y : AV), findE ks key es i0 = some (some (i, y)) → i0 ≤ i ∧ es[i - i0]? = some (key, y) ∧ ∀ u ∈ key, simpleV u = true
  | [], _, _, _, h => by simp [findE] at h
  | x :: es, i0, i, y, h => by
    obtain ⟨b, hb, h1⟩ := bind_inv (show ((eqKs ks key x.1).bind fun b => if b = true then some (some (i0, x.2)) else findE ks key es (i0 + 1)) = _ from h)
    cases b with
    | true =>
      simp only [if_true] at h1
      obtain ⟨rfl, rfl⟩ := Prod.mk.inj (Option.some.inj (Option.some.inj h1))
      refine ⟨Nat.le_refl _, ?_, (eqKs_simple hb).1⟩
      rw [eqKs_true hb]; simp
    | false =>
      simp only [Bool.false_eq_true, if_false] at h1
      obtain ⟨h2, h3, h4⟩ := findE_hit es (i0 + 1) i y h1
      have hi : i - i0 = (i - (i0 + 1)) + 1 := by omega
      exact ⟨by omega, by rw [hi]; exact h3, h4⟩

/-- An entry laid over another one. -/
theorem MapOk.set {ag : Bool} {k : Cfg} {w : World} {es : List (List Value × AV)} {ents : Array MapEntry} {clk : Nat} (h : MapOk ag k w es ents clk) {i : Nat} {x : List Value × AV} {f : MapEntry → MapEntry} (hf : ∀ e y, ents[i]? = some e → es[i]? = some y → (f e).key = keyV ag x.1 ∧ RA k w (f e).val x.2 ∧ (f e).born = e.born) :
    MapOk ag k w (es.set i x) (ents.modify i f) clk := by
  obtain ⟨h1, h2, h3⟩ := h
  refine ⟨by simp [h1], by simp [h2], fun j e y he hy => ?_⟩
  rw [Array.getElem?_modify] at he
  rw [List.getElem?_set] at hy
  by_cases e1 : i = j
  · subst e1
    rw [if_pos rfl] at he hy
    obtain ⟨e0, he0, rfl⟩ := map_inv he
    split at hy
    · obtain rfl := Option.some.inj hy
      have hlt : i < es.length := by assumption
      obtain ⟨q1, q2, q3⟩ := hf e0 es[i] he0 (List.getElem?_eq_getElem hlt)
      exact ⟨q1, q2, by rw [q3]; exact (h3 i e0 es[i] he0 (List.getElem?_eq_getElem hlt)).2.2⟩
    · cases hy
  · rw [if_neg e1] at he hy
    exact h3 j e y he hy
theorem MapOk.push {ag : Bool} {k : Cfg} {w : World} {es : List (List Value × AV)} {ents : Array MapEntry} {clk : Nat} (h : MapOk ag k w es ents clk) {x : List Value × AV} {v : Value} (hv : RA k w v x.2) : MapOk ag k w (es ++ [x]) (ents.push { key := keyV ag x.1, val := v, born := clk }) (clk + 1) := by
  obtain ⟨h1, h2, h3⟩ := h
  refine ⟨by simp [h1], by simp [h2], fun j e y he hy => ?_⟩
  rcases getElem?_snoc hy with hy2 | ⟨rfl, rfl⟩
  · have hlt := (List.getElem?_eq_some_iff.1 hy2).1
    rw [Array.getElem?_push, if_neg (by omega)] at he
    exact h3 j e y he hy2
  · rw [Array.getElem?_push, if_pos h1.symm] at he
    obtain rfl := Option.some.inj he
    exact ⟨rfl, hv, h2⟩

theorem ok_mup {t kt et : TypeId} {p q v : Operand} {m x y : X} {ks : List SK} (ho : o.op = .mapUpdate t p q v) (hu : P.underlying t = some (.map kt et)) (hm : cX P t p = some m) (hx : cX P kt q = some x) (hy : cX P et v = some y) (hk : leafS P 12 kt = some ks)
    (h : (CI.mup (isAggT P kt) ks m x y).sem fr s = some (d, s')) : AOp LL P o fr s d s' := by
  have hp : p ∈ o.op.operands := by rw [ho]; simp [Op.operands]
  have hq : q ∈ o.op.operands := by rw [ho]; simp [Op.operands]
  have hv : v ∈ o.op.operands := by rw [ho]; simp [Op.operands]
  obtain ⟨key, hkey, hc1⟩ := bind_inv (show (((x.ev fr).bind (AV.keyK (isAggT P kt) ks)).bind fun key => (y.ev fr).bind fun u => (m.ev fr).bind fun p => semMup (isAggT P kt) ks s key u p) = some (d, s') from h)
  obtain ⟨kv, hkv, hkey1⟩ := bind_inv hkey
  obtain ⟨yv, hyv, hc2⟩ := bind_inv hc1
  obtain ⟨mv, hmv, hd⟩ := bind_inv hc2
  intro B k a w hops hst
  obtain ⟨hv1, hl⟩ := (ev_ok hops hq hx hkv).keyK_eq (P := P) (t := kt) hkey1 rfl
  have hr := ev_ok hops hp hm hmv
  have hry := ev_ok hops hv hy hyv
  have hck : ∀ em, (Instr.checkKey em 10000 kt (a.eval q)).run P w = .ok () w := fun em => by rw [hv1]; exact checkKey_ok 12 10000 kt ks (by omega) hk key hl
  unfold semMup at hd
  split at hd
  · rename_i id
    obtain ⟨es, hes, hd1⟩ := bind_inv hd
    obtain ⟨r, hr1, he⟩ := map_inv hd1
    obtain ⟨rfl, rfl⟩ := Prod.mk.inj he
    have hid := mapO_inv hes
    obtain ⟨b, hb, hmm⟩ := hr.mp_inv
    obtain ⟨b', ents, clk, g1, g2, g3, gI⟩ := hst.map hid
    rw [hb] at g1; cases g1
    obtain ⟨fq, hf1, hf2⟩ := findKey_ok hk g3.ents hr1
    rw [← hv1] at hf1
    have hget : (getObj b).run P w = .ok (.map ents clk) w := by simp [getObj, Sem.run, g2]
    have hset : ∀ ob, (setObj b ob).run P w = .ok () (w.putObj b ob) := fun ob => by simp [setObj, Sem.run, g2, World.putObj]
    have hkv2 : a.eval q = keyV (isAggT P kt) key := by rw [hv1, keyV_valC]
    match r, fq, hf2 with
    | none, none, _ =>
      obtain ⟨_, he, hs2⟩ := map_upd hst (es' := es ++ [(key, yv)]) (ents' := ents.push { key := keyV (isAggT P kt) key, val := a.eval v, born := clk }) (clk' := clk + 1) hid hb g2 gI fun hmono => (g3.mono hmono).push (hry.mono hmono)
      refine OpWp.skip ?_ ⟨k, RA.undf, he, hs2⟩
      unfold execOp; rw [ho]
      refine run_unit ?_
      simp only [Instr.mapUpdate, Sem.run_bind, run_underlying hu, Result.andThen_ok, hmm, hget, hck, hf1, hset]
      rw [hkv2]
    | some (i, y'), some (j, v'), hf2 =>
      obtain ⟨rfl, _, h2, e, qk, h3, h4, h5⟩ := hf2
      obtain ⟨_, hit, hsim⟩ := findE_hit es 0 i y' hr1
      simp only [Nat.sub_zero] at h3 h4 hit
      rw [hit] at h4
      obtain ⟨rfl, _⟩ := Prod.mk.inj (Option.some.inj h4)
      have he3 : ents[i]? = some e := by simpa using h3
      have hek : e.key = keyV (isAggT P kt) key := (g3.2.2 i e _ he3 hit).1
      have hne : isAggT P kt = false → key ≠ [] := fun ha hn => leafS_ne hk ha (by subst hn; exact List.eq_nil_of_length_eq_zero hl.symm)
      obtain ⟨_, he, hs2⟩ := map_upd hst (es' := es.set i (key, yv)) (ents' := ents.modify i fun e => { e with key := keyV (isAggT P kt) key, val := a.eval v }) (clk' := clk) hid hb g2 gI fun hmono => (g3.mono hmono).set fun e' y2 _ _ => ⟨rfl, hry.mono hmono, rfl⟩
      refine OpWp.skip ?_ ⟨k, RA.undf, he, hs2⟩
      unfold execOp; rw [ho]
      refine run_unit ?_
      rw [hkv2] at hck hf1
      simp only [Instr.mapUpdate, Sem.run_bind, run_underlying hu, Result.andThen_ok, hmm, hget, hck, hf1, hset, he3, Option.map_some, Option.getD_some, hek, hkv2, keyStays hsim hne]
  · cases hd

theorem ok_ins {t kt et : TypeId} {p q v : Operand} {m x y : X} {ks : List SK} (ho : o.op = .insert t p q v) (hu : P.underlying t = some (.map kt et)) (hm : cX P t p = some m) (hx : cX P kt q = some x) (hy : cX P et v = some y) (hk : leafS P 12 kt = some ks)
    (h : (CI.mup (isAggT P kt) ks m x y).sem fr s = some (d, s')) : AOp LL P o fr s d s' := by
  have hp : p ∈ o.op.operands := by rw [ho]; simp [Op.operands]
  have hq : q ∈ o.op.operands := by rw [ho]; simp [Op.operands]
  have hv : v ∈ o.op.operands := by rw [ho]; simp [Op.operands]
  obtain ⟨key, hkey, hc1⟩ := bind_inv (show (((x.ev fr).bind (AV.keyK (isAggT P kt) ks)).bind fun key => (y.ev fr).bind fun u => (m.ev fr).bind fun p => semMup (isAggT P kt) ks s key u p) = some (d, s') from h)
  obtain ⟨kv, hkv, hkey1⟩ := bind_inv hkey
  obtain ⟨yv, hyv, hc2⟩ := bind_inv hc1
  obtain ⟨mv, hmv, hd⟩ := bind_inv hc2
  intro B k a w hops hst
  obtain ⟨hv1, hl⟩ := (ev_ok hops hq hx hkv).keyK_eq (P := P) (t := kt) hkey1 rfl
  have hr := ev_ok hops hp hm hmv
  have hry := ev_ok hops hv hy hyv
  have hck : ∀ em, (Instr.checkKey em 10000 kt (a.eval q)).run P w = .ok () w := fun em => by rw [hv1]; exact checkKey_ok 12 10000 kt ks (by omega) hk key hl
  unfold semMup at hd
  split at hd
  · rename_i id
    obtain ⟨es, hes, hd1⟩ := bind_inv hd
    obtain ⟨r, hr1, he⟩ := map_inv hd1
    obtain ⟨rfl, rfl⟩ := Prod.mk.inj he
    have hid := mapO_inv hes
    obtain ⟨b, hb, hmm⟩ := hr.mp_inv
    obtain ⟨b', ents, clk, g1, g2, g3, gI⟩ := hst.map hid
    rw [hb] at g1; cases g1
    obtain ⟨fq, hf1, hf2⟩ := findKey_ok hk g3.ents hr1
    rw [← hv1] at hf1
    have hget : (getObj b).run P w = .ok (.map ents clk) w := by simp [getObj, Sem.run, g2]
    have hset : ∀ ob, (setObj b ob).run P w = .ok () (w.putObj b ob) := fun ob => by simp [setObj, Sem.run, g2, World.putObj]
    have hkv2 : a.eval q = keyV (isAggT P kt) key := by rw [hv1, keyV_valC]
    match r, fq, hf2 with
    | none, none, _ =>
      obtain ⟨_, he, hs2⟩ := map_upd hst (es' := es ++ [(key, yv)]) (ents' := ents.push { key := keyV (isAggT P kt) key, val := a.eval v, born := clk }) (clk' := clk + 1) hid hb g2 gI fun hmono => (g3.mono hmono).push (hry.mono hmono)
      refine OpWp.skip ?_ ⟨k, RA.undf, he, hs2⟩
      unfold execOp; rw [ho]
      refine run_unit ?_
      simp only [Instr.mapUpdate, Sem.run_bind, run_underlying hu, Result.andThen_ok, hmm, hget, hck, hf1, hset]
      rw [hkv2]
    | some (i, y'), some (j, v'), hf2 =>
      obtain ⟨rfl, _, h2, e, qk, h3, h4, h5⟩ := hf2
      obtain ⟨_, hit, hsim⟩ := findE_hit es 0 i y' hr1
      simp only [Nat.sub_zero] at h3 h4 hit
      rw [hit] at h4
      obtain ⟨rfl, _⟩ := Prod.mk.inj (Option.some.inj h4)
      have he3 : ents[i]? = some e := by simpa using h3
      have hek : e.key = keyV (isAggT P kt) key := (g3.2.2 i e _ he3 hit).1
      have hne : isAggT P kt = false → key ≠ [] := fun ha hn => leafS_ne hk ha (by subst hn; exact List.eq_nil_of_length_eq_zero hl.symm)
      obtain ⟨_, he, hs2⟩ := map_upd hst (es' := es.set i (key, yv)) (ents' := ents.modify i fun e => { e with key := keyV (isAggT P kt) key, val := a.eval v }) (clk' := clk) hid hb g2 gI fun hmono => (g3.mono hmono).set fun e' y2 _ _ => ⟨rfl, hry.mono hmono, rfl⟩
      refine OpWp.skip ?_ ⟨k, RA.undf, he, hs2⟩
      unfold execOp; rw [ho]
      refine run_unit ?_
      rw [hkv2] at hck hf1
      simp only [Instr.mapUpdate, Sem.run_bind, run_underlying hu, Result.andThen_ok, hmm, hget, hck, hf1, hset, he3, Option.map_some, Option.getD_some, hek, hkv2, keyStays hsim hne]
  · cases hd

theorem ok_men {t kt et : TypeId} {p q : Operand} {m x : X} {ks : List SK} {z : AV} (ho : o.op = .mapEntry t p q) (hu : P.underlying t = some (.map kt et)) (hm : cX P t p = some m) (hx : cX P kt q = some x) (hk : leafS P 12 kt = some ks) (hz : zeroA P et = some z)
    (h : (CI.men (isAggT P kt) ks z m x).sem fr s = some (d, s')) : AOp LL P o fr s d s' := by
  have hp : p ∈ o.op.operands := by rw [ho]; simp [Op.operands]
  have hq : q ∈ o.op.operands := by rw [ho]; simp [Op.operands]
  obtain ⟨key, hkey, hc1⟩ := bind_inv (show (((x.ev fr).bind (AV.keyK (isAggT P kt) ks)).bind fun key => (m.ev fr).bind fun p => semMen (isAggT P kt) ks s key z p) = some (d, s') from h)
  obtain ⟨kv, hkv, hkey1⟩ := bind_inv hkey
  obtain ⟨mv, hmv, hd⟩ := bind_inv hc1
  intro B k a w hops hst
  obtain ⟨hv1, hl⟩ := (ev_ok hops hq hx hkv).keyK_eq (P := P) (t := kt) hkey1 rfl
  obtain ⟨zv, hz1, hz2⟩ := zeroA_ok hz k w
  have hr := ev_ok hops hp hm hmv
  have hck : ∀ em, (Instr.checkKey em 10000 kt (a.eval q)).run P w = .ok () w := fun em => by rw [hv1]; exact checkKey_ok 12 10000 kt ks (by omega) hk key hl
  have two : ∀ (k' : Cfg) (w' : World) (u : Value) (y : AV) (n : Nat), RA k' w' u y → RA k' w' (.tuple #[u, goInt n]) (.tup [y, intD n]) := fun k' w' u y n hu => by
    refine .tup (us := [u, goInt n]) rfl fun i u' c hu' hc => ?_
    match i with
    | 0 => simp at hu' hc; subst hu'; subst hc; exact hu
    | 1 => simp at hu' hc; subst hu'; subst hc; exact .d (RD.sc _)
    | i + 2 => simp at hu'
  unfold semMen at hd
  split at hd
  · rename_i id
    obtain ⟨es, hes, hd1⟩ := bind_inv hd
    obtain ⟨r, hr1, he⟩ := map_inv hd1
    have hid := mapO_inv hes
    obtain ⟨b, hb, hmm⟩ := hr.mp_inv
    obtain ⟨b', ents, clk, g1, g2, g3, gI⟩ := hst.map hid
    rw [hb] at g1; cases g1
    obtain ⟨fq, hf1, hf2⟩ := findKey_ok hk g3.ents hr1
    rw [← hv1] at hf1
    have hget : (getObj b).run P w = .ok (.map ents clk) w := by simp [getObj, Sem.run, g2]
    have hset : ∀ ob, (setObj b ob).run P w = .ok () (w.putObj b ob) := fun ob => by simp [setObj, Sem.run, g2, World.putObj]
    have hkv2 : a.eval q = keyV (isAggT P kt) key := by rw [hv1, keyV_valC]
    match r, fq, hf2 with
    | none, none, _ =>
      obtain ⟨rfl, rfl⟩ := Prod.mk.inj he
      obtain ⟨hm2, he, hs2⟩ := map_upd hst (es' := es ++ [(key, z)]) (ents' := ents.push { key := keyV (isAggT P kt) key, val := zv, born := clk }) (clk' := clk + 1) hid hb g2 gI fun hmono => (g3.mono hmono).push (hz2 _ _)
      refine OpWp.value (v := .tuple #[zv, goInt clk]) ?_ ⟨k, by rw [← g3.2.1]; exact two _ _ _ _ _ (hz2 _ _), he, hs2⟩
      unfold execOp; rw [ho]
      refine run_value ?_
      simp only [Instr.mapEntry, Sem.run_bind, run_underlying hu, Result.andThen_ok, hmm, hget, hck, hf1, hz1, hset, Sem.run_pure]
      rw [hkv2]
    | some (i, y'), some (j, v'), hf2 =>
      obtain ⟨rfl, rfl⟩ := Prod.mk.inj he
      obtain ⟨rfl, _, h2, e, qk, h3, h4, h5⟩ := hf2
      obtain ⟨_, hit, hsim⟩ := findE_hit es 0 i y' hr1
      simp only [Nat.sub_zero] at h3 h4 hit
      rw [hit] at h4
      obtain ⟨rfl, _⟩ := Prod.mk.inj (Option.some.inj h4)
      have he3 : ents[i]? = some e := by simpa using h3
      obtain ⟨hek, _, hborn⟩ := g3.2.2 i e _ he3 hit
      dsimp only at hek
      have hne : isAggT P kt = false → key ≠ [] := fun ha hn => leafS_ne hk ha (by subst hn; exact List.eq_nil_of_length_eq_zero hl.symm)
      obtain ⟨hm2, he, hs2⟩ := map_upd hst (es' := es.set i (key, y')) (ents' := ents.modify i fun e => { e with key := keyV (isAggT P kt) key }) (clk' := clk) hid hb g2 gI fun hmono => (g3.mono hmono).set fun e' y2 he' hy2 => by
        rw [he3] at he'; cases he'
        exact ⟨rfl, by dsimp only; rw [h5]; exact h2.mono hmono, rfl⟩
      refine OpWp.value (v := .tuple #[v', goInt i]) ?_ ⟨k, two _ _ _ _ _ (h2.mono hm2), he, hs2⟩
      unfold execOp; rw [ho]
      refine run_value ?_
      rw [hkv2] at hck hf1
      simp only [Instr.mapEntry, Sem.run_bind, run_underlying hu, Result.andThen_ok, hmm, hget, hck, hf1, hset, he3, Option.map_some, Option.getD_some, hek, hkv2, keyStays hsim hne, hborn, Sem.run_pure]
  · cases hd

theorem ok_mst {t kt et : TypeId} {p q v : Operand} {m x y : X} (ho : o.op = .entryStore t p q v) (hu : P.underlying t = some (.map kt et)) (hm : cX P t p = some m) (hx : cX P 0 q = some x) (hy : cX P et v = some y)
    (h : (CI.mst m x y).sem fr s = some (d, s')) : AOp LL P o fr s d s' := by
  have hp : p ∈ o.op.operands := by rw [ho]; simp [Op.operands]
  have hq : q ∈ o.op.operands := by rw [ho]; simp [Op.operands]
  have hv : v ∈ o.op.operands := by rw [ho]; simp [Op.operands]
  obtain ⟨n, hn, hc1⟩ := bind_inv (show (((x.ev fr).bind AV.int?).bind fun j => (y.ev fr).bind fun u => (m.ev fr).bind fun p => semMst s j u p) = some (d, s') from h)
  obtain ⟨xv, hxv, hn1⟩ := bind_inv hn
  obtain ⟨yv, hyv, hc2⟩ := bind_inv hc1
  obtain ⟨mv, hmv, hd⟩ := bind_inv hc2
  intro B k a w hops hst
  have hi := (ev_ok hops hq hx hxv).sc_eq (AV.int_sc hn1)
  have hr := ev_ok hops hp hm hmv
  have hry := ev_ok hops hv hy hyv
  unfold semMst at hd
  split at hd
  · rename_i id
    obtain ⟨⟨ag, es⟩, hes, hd1⟩ := bind_inv hd
    split at hd1
    · rename_i h0
      obtain ⟨x0, hx0, he⟩ := map_inv hd1
      obtain ⟨rfl, rfl⟩ := Prod.mk.inj he
      have hid := mapP_inv hes
      obtain ⟨b, hb, hmm⟩ := hr.mp_inv
      obtain ⟨b', ents, clk, g1, g2, g3, gI⟩ := hst.map hid
      rw [hb] at g1; cases g1
      dsimp only at hx0 ⊢
      have hget : (getObj b).run P w = .ok (.map ents clk) w := by simp [getObj, Sem.run, g2]
      have hset : ∀ ob, (setObj b ob).run P w = .ok () (w.putObj b ob) := fun ob => by simp [setObj, Sem.run, g2, World.putObj]
      have hlt : n.toNat < ents.size := by rw [g3.1]; exact (List.getElem?_eq_some_iff.1 hx0).1
      have he0 : ents[n.toNat]? = some ents[n.toNat] := Array.getElem?_eq_getElem hlt
      obtain ⟨hek, _, hborn⟩ := g3.2.2 _ _ _ he0 hx0
      have hfind : ents.findIdx? (fun e => (e.born : Int) == n) = some n.toNat := by
        rw [Array.findIdx?_eq_some_iff_getElem]
        refine ⟨hlt, ?_, fun j hj => ?_⟩
        · simp only [hborn, beq_iff_eq]; omega
        · have hjs : j < ents.size := by omega
          have hj0 : ents[j]? = some ents[j] := Array.getElem?_eq_getElem hjs
          have hjl : j < es.length := by rw [← g3.1]; exact hjs
          have := (g3.2.2 j _ _ hj0 (List.getElem?_eq_getElem hjl)).2.2
          simp only [this, beq_iff_eq]; omega
      obtain ⟨_, he, hs2⟩ := map_upd hst (es' := es.set n.toNat (x0.1, yv)) (ents' := ents.modify n.toNat fun e => { e with val := a.eval v }) (clk' := clk) hid hb g2 gI fun hmono => (g3.mono hmono).set fun e' y2 he' hy2 => by
        rw [he0] at he'; cases he'
        exact ⟨hek, hry.mono hmono, rfl⟩
      refine OpWp.skip ?_ ⟨k, RA.undf, he, hs2⟩
      unfold execOp; rw [ho]
      refine run_unit ?_
      simp only [Instr.entryStore, hmm, Sem.run_bind, hget, Result.andThen_ok, hi, asInt, asIntOf, Sem.run_pure, hfind, hset]
    · cases hd1
  · cases hd
end
end Go.Bb
