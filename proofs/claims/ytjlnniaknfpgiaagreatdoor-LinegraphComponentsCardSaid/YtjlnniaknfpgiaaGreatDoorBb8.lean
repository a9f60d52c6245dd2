/-
  Part Bb8 of this claim's proof. Joined by merge.py from the texts of wip/tpl.
-/
import Derived.Test.YtjlnniaknfpgiaaGreatDoorBb7
set_option linter.unusedVariables false
set_option linter.unusedSimpArgs false
set_option linter.unnecessarySimpa false
set_option linter.unusedVariables false
namespace Go.Bb
open Go Go.RowKit Go.Ab Go.Proofs.Lg

section
variable {LL : Nat → Code → CC → Prop} {P : Program} {o : Oper} {fr : Fr} {s s' : List AObj} {d : AV}

theorem leafS_up {P : Program} {op : BinOp} {t : TypeId} {ag : Bool} {ks : List SK} {neg : Bool} (h : eqTy P op t = some (ag, ks, neg)) : eqNeg op = some neg ∧ leafS P 12 t = some ks ∧ ag = isAggT P t ∧ ((isAggT P t = true ∧ P.eqGuardType P.depth t = false) ∨ P.underlying t = some .bool) := by
  unfold eqTy at h
  split at h
  · rename_i n fs hn hu
    split at h
    · rename_i hg
      obtain ⟨ks', hk, he⟩ := map_inv h
      cases he
      have : isAggT P t = true := by unfold isAggT; rw [hu]
      exact ⟨hn, hk, this.symm, .inl ⟨this, hg⟩⟩
    · cases h
  · rename_i n m e hn hu
    split at h
    · rename_i hg
      obtain ⟨ks', hk, he⟩ := map_inv h
      cases he
      have : isAggT P t = true := by unfold isAggT; rw [hu]
      exact ⟨hn, hk, this.symm, .inl ⟨this, hg⟩⟩
    · cases h
  · rename_i n hn hu
    obtain ⟨ks', hk, he⟩ := map_inv h
    cases he
    have : isAggT P t = false := by unfold isAggT; rw [hu]
    exact ⟨hn, hk, this.symm, .inr hu⟩
  · cases h

theorem ok_eqa {op : BinOp} {t t' : TypeId} {p q : Operand} {x y : X} {ag : Bool} {ks : List SK} {neg : Bool} (ho : o.op = .binOp op t p q t') (hx : cX P t p = some x) (hy : cX P t q = some y) (he : eqTy P op t = some (ag, ks, neg)) (h : (CI.eqa ag ks neg x y).sem fr s = some (d, s')) : AOp LL P o fr s d s' := by
  have hp : p ∈ o.op.operands := by rw [ho]; simp [Op.operands]
  have hq : q ∈ o.op.operands := by rw [ho]; simp [Op.operands]
  obtain ⟨hc, rfl⟩ := ret_inv h
  obtain ⟨us, hu, hc1⟩ := bind_inv hc
  obtain ⟨xv, hxv, hu1⟩ := bind_inv hu
  obtain ⟨vs, hv, hc2⟩ := bind_inv hc1
  obtain ⟨yv, hyv, hv1⟩ := bind_inv hv
  obtain ⟨b, hb, rfl⟩ := map_inv hc2
  obtain ⟨e1, e2, e3, e4⟩ := leafS_up he
  refine AOp.pure fun B k a w hops hst => ⟨.bool (neg != b), ?_, .d (RD.sc _)⟩
  unfold execOp; rw [ho]
  refine run_value ?_
  rw [((ev_ok hops hp hx hxv).key_eq (P := P) hu1 e3).1, ((ev_ok hops hq hy hyv).key_eq (P := P) hv1 e3).1]
  have hr : (Op.equal t (valC P t us) (valC P t vs)).run P w = .ok b w := equalIn_ok 12 10000 t ks (by omega) e2 w us vs b hb
  rcases e4 with ⟨e5, e6⟩ | e5
  · obtain ⟨xs, hxs⟩ : ∃ xs, valC P t us = .agg xs := by
      unfold isAggT at e5; unfold Bb.valC
      split at e5
      · rename_i hu; rw [hu]; exact ⟨_, rfl⟩
      · rename_i hu; rw [hu]; exact ⟨_, rfl⟩
      · cases e5
    obtain ⟨ys, hys⟩ : ∃ xs, valC P t vs = .agg xs := by
      unfold isAggT at e5; unfold Bb.valC
      split at e5
      · rename_i hu; rw [hu]; exact ⟨_, rfl⟩
      · rename_i hu; rw [hu]; exact ⟨_, rfl⟩
      · cases e5
    rw [hxs, hys] at hr ⊢
    cases op <;> simp [eqNeg] at e1 <;> subst e1 <;> simp [eqGuard, binOp, Op.stringOp, Sem.run_bind, e6, hr, Result.andThen, go_sem]
  · have hks : ks = [.b] := by
      have := e2
      unfold leafS at this
      rw [e5] at this
      dsimp only at this
      split at this
      · exact (Option.some.inj this).symm
      · cases this
    subst hks
    obtain ⟨l1, l2⟩ := eqKs_len hb
    match us, vs, l1, l2, hb, hr with
    | [u], [v], _, _, hb, hr =>
      have hu : valC P t [u] = u := by unfold Bb.valC; rw [e5]; rfl
      have hv : valC P t [v] = v := by unfold Bb.valC; rw [e5]; rfl
      rw [hu, hv] at hr ⊢
      unfold eqKs at hb
      split at hb <;> first | (cases hb; done) | skip
      all_goals first
        | (rename_i h1 h2 h3; cases h1; done)
        | (rename_i h1 h2 h3; cases h2; cases h3; cases op <;> simp [eqNeg] at e1 <;> subst e1 <;> simp [eqGuard, binOp, Sem.run_bind, hr, Result.andThen, go_sem])

theorem ok_not {t : TypeId} {p : Operand} {x : X} (ho : o.op = .unOp .not t p) (hx : cX P 0 p = some x) (h : (CI.not x).sem fr s = some (d, s')) : AOp LL P o fr s d s' := by
  have hp : p ∈ o.op.operands := by rw [ho]; simp [Op.operands]
  obtain ⟨hc, rfl⟩ := ret_inv h
  obtain ⟨b, hb, rfl⟩ := map_inv hc
  obtain ⟨xv, hxv, hb1⟩ := bind_inv hb
  refine AOp.pure fun B k a w hops hst => ⟨.bool !b, ?_, .d (RD.sc _)⟩
  unfold execOp; rw [ho]
  refine run_value ?_
  rw [(ev_ok hops hp hx hxv).sc_eq (AV.bool_sc hb1)]
  simp [Op.unary]

theorem chunk_len {α : Type} (sz : Nat) : ∀ (n : Nat) (l : List α), (chunk sz n l).length = n
  | 0, _ => rfl
  | n + 1, l => by simp [chunk, chunk_len sz n]
theorem chunk_flat {α : Type} (sz : Nat) : ∀ (n : Nat) (l : List α), l.length = n * sz → (chunk sz n l).flatten = l ∧ ∀ r ∈ chunk sz n l, r.length = sz
  | 0, l, h => by
    obtain rfl : l = [] := List.eq_nil_of_length_eq_zero (by simpa using h)
    exact ⟨rfl, by simp [chunk]⟩
  | n + 1, l, h => by
    rw [Nat.add_mul] at h
    obtain ⟨h1, h2⟩ := chunk_flat sz n (l.drop sz) (by simp; omega)
    refine ⟨by rw [chunk, List.flatten_cons, h1, List.take_append_drop], fun r hr => ?_⟩
    rw [chunk] at hr
    rcases List.mem_cons.1 hr with rfl | hr
    · simp; omega
    · exact h2 r hr

theorem ok_un {op : UnOp} {t : TypeId} {p : Operand} {x : X} (ho : o.op = .unOp op t p) (hx : cX P 0 p = some x) (h : (CI.un op x).sem fr s = some (d, s')) : AOp LL P o fr s d s' := by
  have hp : p ∈ o.op.operands := by rw [ho]; simp [Op.operands]
  obtain ⟨hc, rfl⟩ := ret_inv h
  obtain ⟨u, hb, hc1⟩ := bind_inv hc
  obtain ⟨xv, hxv, hb1⟩ := bind_inv hb
  obtain ⟨r, hr, rfl⟩ := map_inv hc1
  refine AOp.pure fun B k a w hops hst => ⟨r, ?_, .d (RD.sc _)⟩
  unfold execOp; rw [ho]
  refine run_value ?_
  rw [(ev_ok hops hp hx hxv).sc_eq hb1]
  unfold unS at hr
  split at hr
  · obtain rfl := Option.some.inj hr
    simp [Op.unary, Op.intArith, go_sem]
  · obtain rfl := Option.some.inj hr
    simp [Op.unary, Op.intBits, go_sem]
  · cases hr

theorem rdIsn_ok {k : Cfg} {w : World} {v : Value} {x : AV} {b : Bool} (h : RA k w v x) (hb : rdIsn x = some b) : ∃ a n c, v = .slice a n c ∧ (b = true → a = none) ∧ (b = false → ∃ ad, a = some ad) := by
  have some' : ∀ {sz : Nat} {r : List D} {rows : List (List D)}, RD k.I w v (.sl sz (r :: rows)) → ∃ a n c, v = .slice a n c ∧ (false = true → a = none) ∧ (false = false → ∃ ad, a = some ad) := fun h => by
    obtain ⟨a, c, us, rfl, h2, h3, h4, h5, h6⟩ := h.sl_inv
    obtain ⟨b, off, ha, _⟩ := h6 (by simp)
    exact ⟨a, _, c, rfl, fun h => Bool.noConfusion h, fun _ => ⟨_, ha⟩⟩
  unfold rdIsn at hb
  split at hb
  · cases hb
    rw [h.nil_inv]
    exact ⟨none, 0, 0, rfl, fun _ => rfl, fun h => Bool.noConfusion h⟩
  · cases hb
    obtain ⟨b, c, hb, hv, _, _⟩ := h.win_inv
    exact ⟨_, _, c, hv, fun h => Bool.noConfusion h, fun _ => ⟨_, rfl⟩⟩
  · cases hb; exact some' h.d_inv
  · cases hb; exact some' h.tsl_inv.1
  · cases hb

theorem ok_isn {op : BinOp} {t t' : TypeId} {p q : Operand} {x : X} {neg : Bool} (ho : o.op = .binOp op t p q t') (hn : nilTy P op t q = some neg) (hx : cX P t p = some x) (h : (CI.isn neg x).sem fr s = some (d, s')) : AOp LL P o fr s d s' := by
  have hp : p ∈ o.op.operands := by rw [ho]; simp [Op.operands]
  obtain ⟨hc, rfl⟩ := ret_inv h
  obtain ⟨b, hb, rfl⟩ := map_inv hc
  obtain ⟨v, hv, hb1⟩ := bind_inv hb
  unfold nilTy at hn
  split at hn
  · rename_i e hu
    refine AOp.pure fun B k a w hops hst => ⟨.bool (neg != b), ?_, .d (RD.sc _)⟩
    obtain ⟨ad, n, c, he, h1, h2⟩ := rdIsn_ok (ev_ok hops hp hx hv) hb1
    unfold execOp; rw [ho]
    refine run_value ?_
    have hq : a.eval (.const (.slice none 0 0)) = .slice none 0 0 := rfl
    have heq : (Op.equal t (.slice ad n c) (.slice none 0 0)).run P w = .ok b w := by
      show (Op.equalIn (9999 + 1) t _ _).run P w = _
      unfold Op.equalIn
      simp only [Sem.run_bind, run_underlying hu, Result.andThen_ok]
      cases b with
      | true => rw [h1 rfl]; rfl
      | false => obtain ⟨a0, rfl⟩ := h2 rfl; rfl
    rw [he, hq]
    split at hn
    · obtain rfl := Option.some.inj hn
      simp only [eqGuard, binOp, Sem.run_bind, heq, Result.andThen_ok, Sem.run_pure]
      simp [Sem.run_pure, Sem.run_bind, Result.andThen_ok, heq]
    · obtain rfl := Option.some.inj hn
      simp only [eqGuard, binOp, Sem.run_bind, heq, Result.andThen_ok, Sem.run_pure]
      simp [Sem.run_pure, Sem.run_bind, Result.andThen_ok, heq]
    · cases hn
  · cases hn

theorem ok_mm {mx : Bool} {p q : Operand} {t t' : TypeId} {x y : X} (ho : o.op = .call { callee := .builtin (if mx then .max else .min), args := #[p, q], argTypes := #[t, t'] }) (hx : cX P t p = some x) (hy : cX P t' q = some y) (h : (CI.mm mx x y).sem fr s = some (d, s')) : AOp LL P o fr s d s' := by
  have hp : p ∈ o.op.operands := by rw [ho]; simp [Op.operands, Call.operands]
  have hq : q ∈ o.op.operands := by rw [ho]; simp [Op.operands, Call.operands]
  obtain ⟨hc, rfl⟩ := ret_inv h
  obtain ⟨u, hu, hc⟩ := bind_inv hc
  obtain ⟨xv, hxv, hu⟩ := bind_inv hu
  obtain ⟨v, hv, hc⟩ := bind_inv hc
  obtain ⟨yv, hyv, hv⟩ := bind_inv hv
  obtain ⟨r, hr, rfl⟩ := map_inv hc
  refine AOp.pure fun B k a w hops hst => ⟨r, ?_, .d (RD.sc _)⟩
  unfold execOp; rw [ho]
  unfold mmS at hr
  split at hr
  · rename_i k1 m1 k2 m2
    split at hr
    · rename_i e
      subst e
      obtain rfl := Option.some.inj hr
      have e1 := (ev_ok hops hp hx hxv).sc_eq hu
      have e2 := (ev_ok hops hq hy hyv).sc_eq hv
      cases mx
      · simp [resolve, invoke, builtin, Builtin.min_, Builtin.min2, e1, e2, Sem.run_bind, Sem.run_pure, Result.andThen_ok]
      · simp [resolve, invoke, builtin, Builtin.max_, Builtin.max2, e1, e2, Sem.run_bind, Sem.run_pure, Result.andThen_ok]
    · cases hr
  · cases hr

theorem sz_len {I : Nat → Nat} {w : World} {v : Value} {sz : Nat} {rows : List (List D)} (h : RD I w v (.sl sz rows)) : ∃ a c, v = .slice a rows.length c := by
  obtain ⟨a, c, us, h1, _⟩ := h.sl_inv; exact ⟨a, c, h1⟩

/-- What len is asked of. -/
def lenKd (P : Program) (t : TypeId) (kd : Nat) : Prop := match kd with
  | 0 => ∃ e, P.underlying t = some (.slice e)
  | 1 => P.underlying t = some .string
  | 2 => ∃ k e, P.underlying t = some (.map k e)
  | _ => False

theorem ok_len {t : TypeId} {kd : Nat} {p : Operand} {x : X} (ho : o.op = .call { callee := .builtin .len, args := #[p], argTypes := #[t] }) (hu : lenKd P t kd) (hx : cX P t p = some x)
    (h : (CI.len kd x).sem fr s = some (d, s')) : AOp LL P o fr s d s' := by
  have hp : p ∈ o.op.operands := by rw [ho]; simp [Op.operands, Call.operands]
  obtain ⟨hc, rfl⟩ := ret_inv h
  obtain ⟨v, hv, hc1⟩ := bind_inv hc
  obtain ⟨n, hn, rfl⟩ := map_inv hc1
  refine AOp.pure fun B k a w hops hst => ⟨.int .i64 n, ?_, .d (RD.sc _)⟩
  have hr := ev_ok hops hp hx hv
  have sl : ∀ (ad : Option Addr) (m c : Nat), kd = 0 → a.eval p = .slice ad m c → n = m → (execOp a.eval o).run P w = .ok (.value (.int .i64 n)) w := fun ad m c h0 h1 h2 => by
    subst h0; subst h2
    obtain ⟨e, hu⟩ := hu
    unfold execOp; rw [ho]
    simp only [resolve, invoke, builtin, Sem.run_bind, Sem.run_pure, Result.andThen_ok, List.map_toArray, List.map_cons, List.map_nil, h1]
    simp [Builtin.len_, run_underlying hu, goInt]
  unfold rdLen at hn
  split at hn
  · obtain rfl := Option.some.inj hn
    obtain ⟨ad, c, hv2⟩ := sz_len hr.d_inv
    exact sl ad _ c rfl hv2 rfl
  · obtain rfl := Option.some.inj hn
    obtain ⟨ad, c, hv2⟩ := sz_len hr.tsl_inv.1
    exact sl ad _ c rfl hv2 rfl
  · obtain rfl := Option.some.inj hn
    exact sl none 0 0 rfl hr.nil_inv rfl
  · obtain rfl := Option.some.inj hn
    obtain ⟨ad, h1⟩ := hr.emp_inv
    exact sl ad 0 0 rfl h1 rfl
  · obtain rfl := Option.some.inj hn
    obtain ⟨⟨ad, c, hv2⟩, _⟩ := hr.vec_inv
    exact sl ad _ c rfl hv2 rfl
  · obtain rfl := Option.some.inj hn
    obtain ⟨b, c, _, hv2, _⟩ := hr.win_inv
    exact sl _ _ c rfl hv2 rfl
  · obtain rfl := Option.some.inj hn
    obtain ⟨⟨ad, c, hv2⟩, _⟩ := hr.vwn_inv
    exact sl ad _ c rfl hv2 rfl
  · obtain rfl := Option.some.inj hn
    rename_i b
    have hu' : P.underlying t = some .string := hu
    unfold execOp; rw [ho]
    simp only [resolve, invoke, builtin, Sem.run_bind, Sem.run_pure, Result.andThen_ok, List.map_toArray, List.map_cons, List.map_nil, hr.sc_eq (u := .string b) rfl]
    simp [Builtin.len_, run_underlying hu', goInt]
  · rename_i id
    obtain ⟨ag, es, hes, rfl⟩ := mapN_inv hn
    obtain ⟨kt, et, hu'⟩ := hu
    obtain ⟨b, hb, hvv⟩ := hr.mp_inv
    obtain ⟨b', ents, clk, g1, g2, g3, _⟩ := hst.map hes
    rw [hb] at g1; cases g1
    unfold execOp; rw [ho]
    simp only [resolve, invoke, builtin, Sem.run_bind, Sem.run_pure, Result.andThen_ok, List.map_toArray, List.map_cons, List.map_nil, hvv]
    simp [Builtin.len_, run_underlying hu', goInt, getObj, Sem.run, g2, g3.1]
  · obtain rfl := Option.some.inj hn
    obtain ⟨kt, et, hu'⟩ := hu
    unfold execOp; rw [ho]
    simp only [resolve, invoke, builtin, Sem.run_bind, Sem.run_pure, Result.andThen_ok, List.map_toArray, List.map_cons, List.map_nil, hr.sc_eq (u := .map none) rfl]
    simp [Builtin.len_, run_underlying hu', goInt]
  · cases hn

/-- Bounds. -/
theorem bound_ok {k : Cfg} {w : World} {a : Act} (hops : Ops k w a o fr) {q : Option Operand} (hq : ∀ p, q = some p → p ∈ o.op.operands) {y : Option X} (hy : cXo P 0 q = some y) {dft : Nat} {n : Int} (hn : boundA fr dft y = some n) :
    (q = none ∧ n = dft) ∨ ∃ p, q = some p ∧ a.eval p = .int .i64 n := by
  cases q with
  | none => simp [cXo] at hy; subst hy; simp [boundA] at hn; exact .inl ⟨rfl, hn.symm⟩
  | some p =>
    unfold cXo at hy
    obtain ⟨x, hx, rfl⟩ := Option.map_eq_some_iff.1 hy
    obtain ⟨v, hv, hn1⟩ := bind_inv hn
    exact .inr ⟨p, rfl, (ev_ok hops (hq p rfl) hx hv).sc_eq (AV.int_sc hn1)⟩
theorem boundO_ok {k : Cfg} {w : World} {a : Act} (hops : Ops k w a o fr) {q : Option Operand} (hq : ∀ p, q = some p → p ∈ o.op.operands) {y : Option X} (hy : cXo P 0 q = some y) {n : Option Int} (hn : boundO fr y = some n) :
    (q = none ∧ n = none) ∨ ∃ p m, q = some p ∧ n = some m ∧ a.eval p = .int .i64 m := by
  cases q with
  | none => simp [cXo] at hy; subst hy; simp [boundO] at hn; exact .inl ⟨rfl, hn.symm⟩
  | some p =>
    unfold cXo at hy
    obtain ⟨x, hx, rfl⟩ := Option.map_eq_some_iff.1 hy
    obtain ⟨m, hm, rfl⟩ := map_inv hn
    obtain ⟨v, hv, hn1⟩ := bind_inv hm
    exact .inr ⟨p, m, rfl, rfl, (ev_ok hops (hq p rfl) hx hv).sc_eq (AV.int_sc hn1)⟩

/-- The bounds of a slice expression, run. -/
theorem run_bounds {w : World} {k : Cfg} {a : Act} (hops : Ops k w a o fr) {lo hi : Option Operand} (hlo : ∀ q, lo = some q → q ∈ o.op.operands) (hhi : ∀ q, hi = some q → q ∈ o.op.operands) {l h2 : Option X} (hl : cXo P 0 lo = some l) (hh : cXo P 0 hi = some h2) {n : Int} {mo : Option Int} (hn : boundA fr 0 l = some n) (hm : boundO fr h2 = some mo)
    (isl : Bool) {len cap : Nat} (hcap : len ≤ cap) (c1 : 0 ≤ n) (c2 : n ≤ mo.getD len) (c3 : mo.getD len ≤ len) : (Instr.sliceBounds isl len cap (lo.map a.eval) (hi.map a.eval) none).run P w = .ok (n.toNat, (mo.getD len).toNat, cap) w := by
  have r2 : ∀ m code, n ≤ (m : Nat) → (Instr.sliceBound (.int .i64 n) m code).run P w = .ok n.toNat w := fun m code h => run_sliceBound w .i64 n m _ c1 h
  rcases boundO_ok hops hhi hh hm with ⟨rfl, rfl⟩ | ⟨q, m, rfl, rfl, he⟩
  · rcases bound_ok hops hlo hl hn with ⟨rfl, rfl⟩ | ⟨q', rfl, he'⟩
    · simp [Instr.sliceBounds]
    · have r3 : ∀ code, (Instr.sliceBound (.int .i64 n) len code).run P w = .ok n.toNat w := fun code => r2 len code (by simpa using c2)
      simp [Instr.sliceBounds, he', r3]
  · simp only [Option.getD_some] at c2 c3 ⊢
    have r1 : ∀ code, (Instr.sliceBound (.int .i64 m) cap code).run P w = .ok m.toNat w := fun code => run_sliceBound w .i64 m cap _ (by omega) (by omega)
    have r3 : ∀ code, (Instr.sliceBound (.int .i64 n) m.toNat code).run P w = .ok n.toNat w := fun code => r2 m.toNat code (by omega)
    rcases bound_ok hops hlo hl hn with ⟨rfl, rfl⟩ | ⟨q', rfl, he'⟩
    · simp [Instr.sliceBounds, he, r1]
    · simp [Instr.sliceBounds, he, he', r1, r3]

theorem ok_slc {t e : TypeId} {j : TypeInfo} {p : Operand} {lo hi : Option Operand} {x : X} {l h2 : Option X} (ho : o.op = .slice t p lo hi none) (hu : P.underlying t = some (.slice e)) (hj : P.info? e = some j) (hx : cX P 0 p = some x) (hl : cXo P 0 lo = some l) (hh : cXo P 0 hi = some h2)
    (h : (CI.slc j.size x l h2).sem fr s = some (d, s')) : AOp LL P o fr s d s' := by
  have hp : p ∈ o.op.operands := by rw [ho]; simp [Op.operands]
  have hlo : ∀ q, lo = some q → q ∈ o.op.operands := fun q hq => by rw [ho, hq]; simp [Op.operands]
  have hhi : ∀ q, hi = some q → q ∈ o.op.operands := fun q hq => by rw [ho, hq]; simp [Op.operands]
  obtain ⟨hc, rfl⟩ := ret_inv h
  obtain ⟨v, hv, hc1⟩ := bind_inv hc
  obtain ⟨n, hn, hc2⟩ := bind_inv hc1
  obtain ⟨mo, hm, hd⟩ := bind_inv hc2
  refine AOp.pure fun B k a w hops hst => ?_
  have hr := ev_ok hops hp hx hv
  have hrun : ∀ (ad : Option Addr) (len c : Nat), a.eval p = .slice ad len c → len ≤ c → 0 ≤ n → n ≤ mo.getD len → mo.getD len ≤ len →
      (execOp a.eval o).run P w = .ok (.value (.slice (if c = n.toNat then ad else ad.map (·.add (n.toNat * j.size))) ((mo.getD len).toNat - n.toNat) (c - n.toNat))) w := fun ad len c h1 h2' c1 c2 c3 => by
    have hb := run_bounds (P := P) (w := w) hops hlo hhi hl hh hn hm true h2' c1 c2 c3
    unfold execOp; rw [ho]
    refine run_value ?_
    simp only [Instr.sliceAt, Instr.slice, h1, Option.map_none, Sem.run_bind, run_underlying hu, Result.andThen_ok, hb, sizeOf, typeInfo, run_program, hj, Sem.run_pure]
  have hmap : ∀ (b off c : Nat), ¬ c = n.toNat → (if c = n.toNat then (some (⟨b, off, none⟩ : Addr)) else Option.map (fun x => Addr.add x (n.toNat * j.size)) (some ⟨b, off, none⟩)) = some ⟨b, off + n.toNat * j.size, none⟩ := fun b off c hne => by
    rw [if_neg hne]; simp only [Option.map_some, Addr.add_mid]
  unfold rdSlc at hd
  split at hd
  · rename_i id m sz'
    obtain ⟨⟨sz, ds⟩, hcs, hd1⟩ := bind_inv hd
    obtain ⟨e', hid, hsz, hlen⟩ := vecO_inv hcs
    dsimp only at hd1
    split at hd1
    · rename_i hcc
      obtain ⟨⟨rfl, rfl, c0⟩, c1, c2, c3⟩ := hcc
      obtain rfl := Option.some.inj hd1
      obtain ⟨_, u, n', hk, hle, heq⟩ := hr.vec_inv
      obtain ⟨u2, n2, xs, g1, g2, g3, g4, g5⟩ := hst.vec hid
      rw [hk] at g1; cases g1
      have hmn : m = n' := by
        rw [hlen] at g4
        exact Nat.eq_of_mul_eq_mul_right hsz g4
      subst hmn
      rcases g2.2 with ⟨_, h9⟩ | ⟨g, cap, cur, hvv, _, _, hnc, hcm, _⟩
      · omega
      · have hv2 := (heq rfl).trans hvv
        refine ⟨_, hrun _ m cap hv2 hnc c1 c2 c3, ?_⟩
        unfold maxLen at hcm
        rw [hmap g 0 cap (by omega), Nat.zero_add]
        exact .vwn ⟨_, _, rfl⟩ ⟨u, m, hk, Nat.le_refl _, fun _ => ⟨g, _, by rw [hvv]; congr 1; omega, rfl, by omega, by omega⟩⟩
    · cases hd1
  · rename_i id N off m sz'
    obtain ⟨⟨sz, ds⟩, hcs, hd1⟩ := bind_inv hd
    obtain ⟨e', hid, hsz, hlen⟩ := vecO_inv hcs
    dsimp only at hd1
    split at hd1
    · rename_i hcc
      obtain ⟨⟨rfl, rfl, c0⟩, c1, c2, c3⟩ := hcc
      obtain rfl := Option.some.inj hd1
      obtain ⟨_, u, n', hk, hle, heq⟩ := hr.vwn_inv
      obtain ⟨u2, n2, xs, g1, g2, g3, g4, g5⟩ := hst.vec hid
      rw [hk] at g1; cases g1
      have hmn : N = n' := by
        rw [hlen] at g4
        exact Nat.eq_of_mul_eq_mul_right hsz g4
      subst hmn
      obtain ⟨b, c, hub, hvv, hnc, hcm⟩ := heq rfl
      refine ⟨_, hrun _ m c hvv hnc c1 c2 c3, ?_⟩
      rw [hmap b (off * j.size) c (by omega), ← Nat.add_mul]
      exact .vwn ⟨_, _, rfl⟩ ⟨u, N, hk, Nat.le_refl _, fun _ => ⟨b, _, by rw [hub]; congr 1; omega, rfl, by omega, by omega⟩⟩
    · cases hd1
  · rename_i id off m sz'
    split at hd
    · rename_i hcc
      obtain ⟨⟨rfl, c0⟩, c1, c2, c3⟩ := hcc
      obtain rfl := Option.some.inj hd
      obtain ⟨b, c, hb, hvv, g1, g2⟩ := hr.win_inv
      refine ⟨_, hrun _ m c hvv g1 c1 c2 c3, ?_⟩
      have hcn : ¬ c = n.toNat := by omega
      rw [if_neg hcn]
      have : Option.map (fun x => Addr.add x (n.toNat * j.size)) (some (⟨b, off, none⟩ : Addr)) = some ⟨b, off + n.toNat * j.size, none⟩ := by
        simp only [Option.map_some, Addr.add_mid]
      rw [this]
      exact .win hb (by omega) (by omega)
    · cases hd
  · obtain ⟨rows, hrows, hd1⟩ := bind_inv hd
    split at hd1
    · rename_i hcc
      obtain ⟨c1, c2, c3⟩ := hcc
      obtain rfl := Option.some.inj hd1
      have hv1 := hr.slA hrows
      obtain ⟨ad, c, hv2⟩ := sz_len hv1
      rw [hv2] at hv1
      have hpart := hv1.sl_part (lo := n.toNat) (hi := (mo.getD rows.length).toNat) (by omega) (by omega)
      have hcap : rows.length ≤ c := by
        obtain ⟨a', c', us, e1, _, e3, _⟩ := hv1.sl_inv
        cases e1; exact e3
      exact ⟨_, hrun ad rows.length c hv2 hcap c1 c2 c3, .d hpart⟩
    · cases hd1

theorem ok_slz {t e : TypeId} {j : TypeInfo} {p m : Operand} {lo hi : Option Operand} {x : X} (ho : o.op = .slice t p lo hi (some m)) (hz : (isZero m && hi.any isZero && lo.all isZero) = true) (hu : P.underlying t = some (.slice e)) (hj : P.info? e = some j) (hx : cX P 0 p = some x)
    (h : (CI.slz j.size x).sem fr s = some (d, s')) : AOp LL P o fr s d s' := by
  have hp : p ∈ o.op.operands := by rw [ho]; simp [Op.operands]
  obtain ⟨hc, rfl⟩ := ret_inv h
  obtain ⟨v, hv, hc1⟩ := bind_inv hc
  obtain ⟨rows, hrows, rfl⟩ := map_inv hc1
  refine AOp.pure fun B k a w hops hst => ?_
  obtain ⟨ad, c, hv2⟩ := sz_len ((ev_ok hops hp hx hv).slA hrows)
  have z : ∀ q : Operand, isZero q = true → a.eval q = .int .i64 0 := fun q hq => by
    unfold isZero at hq
    split at hq
    · rfl
    · cases hq
  simp only [Bool.and_eq_true] at hz
  obtain ⟨⟨z1, z2⟩, z3⟩ := hz
  cases hi with
  | none => simp at z2
  | some hi =>
    have e1 := z m z1
    have e2 := z hi (by simpa using z2)
    have r1 : ∀ (n : Nat) code, (Instr.sliceBound (.int .i64 0) n code).run P w = .ok 0 w := fun n code => by
      have := run_sliceBound (P := P) w .i64 0 n code (by omega) (by omega)
      simpa using this
    refine ⟨.slice ad 0 0, ?_, .emp⟩
    have hb : (Instr.sliceBounds true rows.length c (lo.map a.eval) (some (a.eval hi)) (some (a.eval m))).run P w = .ok (0, 0, 0) w := by
      cases lo with
      | none => simp [Instr.sliceBounds, e1, e2, r1]
      | some lo =>
        have e3 := z lo (by simpa using z3)
        simp [Instr.sliceBounds, e1, e2, e3, r1]
    unfold execOp; rw [ho]
    refine run_value ?_
    simp only [Instr.sliceAt, Instr.slice, hv2, Option.map_some, Sem.run_bind, run_underlying hu, Result.andThen_ok, hb, sizeOf, typeInfo, run_program, hj, Sem.run_pure, if_true, Nat.sub_self]

theorem ok_sla {t e : TypeId} {n : Nat} {j : TypeInfo} {p : Operand} {lo hi : Option Operand} {x : X} {l h2 : Option X} (ho : o.op = .slice t p lo hi none) (hu : P.underlying t = some (.array n e) ∨ ∃ arr, P.underlying t = some (.pointer arr) ∧ P.underlying arr = some (.array n e)) (hj : P.info? e = some j) (hx : cX P 0 p = some x) (hl : cXo P 0 lo = some l) (hh : cXo P 0 hi = some h2)
    (hn63 : n ≤ 9223372036854775807) (h : (CI.sla n j.size x l h2).sem fr s = some (d, s')) : AOp LL P o fr s d s' := by
  have hp : p ∈ o.op.operands := by rw [ho]; simp [Op.operands]
  have hlo : ∀ q, lo = some q → q ∈ o.op.operands := fun q hq => by rw [ho, hq]; simp [Op.operands]
  have hhi : ∀ q, hi = some q → q ∈ o.op.operands := fun q hq => by rw [ho, hq]; simp [Op.operands]
  obtain ⟨hc, rfl⟩ := ret_inv h
  obtain ⟨v, hv, hc1⟩ := bind_inv hc
  obtain ⟨m, hm, hc2⟩ := bind_inv hc1
  obtain ⟨mo, hmo, hd⟩ := bind_inv hc2
  have run : ∀ {k : Cfg} {a : Act} {w : World} (b off : Nat), Ops k w a o fr → a.eval p = .pointer (some ⟨b, off, none⟩) → (m < n ∧ 0 ≤ m ∧ m ≤ mo.getD n ∧ mo.getD n ≤ n) →
      (execOp a.eval o).run P w = .ok (.value (.slice (some ⟨b, off + m.toNat * j.size, none⟩) ((mo.getD n).toNat - m.toNat) (n - m.toNat))) w := by
    intro k a w b off hops hvv hcc
    obtain ⟨c0, c1, c2, c3⟩ := hcc
    have hbd := run_bounds (P := P) (w := w) hops hlo hhi hl hh hm hmo false (len := n) (cap := n) (Nat.le_refl _) c1 c2 c3
    have hne : ¬ n = m.toNat := by omega
    unfold execOp; rw [ho]
    refine run_value ?_
    rcases hu with hu | ⟨arr, hu, hua⟩
    · simp only [Instr.sliceAt, Instr.sureAddr, hvv, Option.map_none, Sem.run_bind, run_underlying hu, Result.andThen_ok, hbd, sizeOf, typeInfo, run_program, hj, Sem.run_pure, if_neg hne, Addr.add_mid]
    · simp only [Instr.sliceAt, Instr.slice, hvv, Option.map_none, Sem.run_bind, run_underlying hu, run_underlying hua, Result.andThen_ok, asAddr, hbd, sizeOf, typeInfo, run_program, hj, Sem.run_pure, if_neg hne, Addr.add_mid]
  unfold rdSla at hd
  split at hd
  · rename_i id off
    split at hd
    · rename_i hcc
      obtain rfl := Option.some.inj hd
      refine AOp.pure fun B k a w hops hst => ?_
      obtain ⟨b, hb, hvv⟩ := (ev_ok hops hp hx hv).ptr_inv
      exact ⟨_, run b off hops hvv hcc, .win hb (by omega) (by omega)⟩
    · cases hd
  · rename_i ds
    split at hd
    · rename_i hcc
      obtain ⟨hcc, hlen⟩ := hcc
      obtain rfl := Option.some.inj hd
      refine AOp.pure fun B k a w hops hst => ?_
      have hr := (ev_ok hops hp hx hv).d_inv
      generalize hpv : a.eval p = pv at hr
      cases hr with
      | ref b off us _ h1 h2 h3 h4 =>
        refine ⟨_, run b off hops hpv hcc, .d ?_⟩
        obtain ⟨c0, c1, c2, c3⟩ := hcc
        have h5 : RDs k.I w ((us.drop (m.toNat * j.size)).take (((mo.getD n).toNat - m.toNat) * j.size)) ((ds.drop (m.toNat * j.size)).take (((mo.getD n).toNat - m.toNat) * j.size)) := (RDs.drop ⟨h1, h2, h4⟩ _).take _
        have hfit : ((ds.drop (m.toNat * j.size)).take (((mo.getD n).toNat - m.toNat) * j.size)).length = ((mo.getD n).toNat - m.toNat) * j.size := by
          have h6 : m.toNat * j.size + ((mo.getD n).toNat - m.toNat) * j.size ≤ n * j.size := by
            rw [← Nat.add_mul]; exact Nat.mul_le_mul_right _ (by omega)
          simp; omega
        obtain ⟨hf1, hf2⟩ := chunk_flat j.size _ _ hfit
        refine RD.sl_mk (chunk_len ..) hf2 (by omega) (by omega) (by rw [hf1]; exact h5) fun _ => ⟨b, _, rfl, fun i u hu2 => ?_⟩
        rw [List.getElem?_take] at hu2
        split at hu2
        · rw [List.getElem?_drop] at hu2
          rw [Nat.add_assoc]
          exact h3 _ u hu2
        · cases hu2
    · cases hd
  · cases hd

theorem ok_sls {t : TypeId} {p : Operand} {lo hi : Option Operand} {x : X} {l h2 : Option X} (ho : o.op = .slice t p lo hi none) (hu : P.underlying t = some .string) (hx : cX P 0 p = some x) (hl : cXo P 0 lo = some l) (hh : cXo P 0 hi = some h2)
    (h : (CI.sls x l h2).sem fr s = some (d, s')) : AOp LL P o fr s d s' := by
  have hp : p ∈ o.op.operands := by rw [ho]; simp [Op.operands]
  have hlo : ∀ q, lo = some q → q ∈ o.op.operands := fun q hq => by rw [ho, hq]; simp [Op.operands]
  have hhi : ∀ q, hi = some q → q ∈ o.op.operands := fun q hq => by rw [ho, hq]; simp [Op.operands]
  obtain ⟨hc, rfl⟩ := ret_inv h
  obtain ⟨b, hb, hc1⟩ := bind_inv hc
  obtain ⟨v, hv, hb1⟩ := bind_inv hb
  obtain ⟨m, hm, hc2⟩ := bind_inv hc1
  obtain ⟨mo, hmo, hd⟩ := bind_inv hc2
  unfold rdSls at hd
  split at hd
  · rename_i hcc
    obtain ⟨c1, c2, c3⟩ := hcc
    obtain rfl := Option.some.inj hd
    refine AOp.pure fun B k a w hops hst => ⟨_, ?_, .d (RD.sc _)⟩
    have hbd := run_bounds (P := P) (w := w) hops hlo hhi hl hh hm hmo false (len := b.size) (cap := b.size) (Nat.le_refl _) c1 c2 c3
    unfold execOp; rw [ho]
    refine run_value ?_
    simp only [Instr.sliceAt, Instr.slice, (ev_ok hops hp hx hv).sc_eq (AV.str_sc hb1), Option.map_none, Sem.run_bind, run_underlying hu, Result.andThen_ok, hbd, Sem.run_pure]
    simp
    rw [hbd]
    rfl
  · cases hd

theorem ok_cnv {src dst : TypeId} {k k' : IntKind} {p : Operand} {x : X} (ho : o.op = .convert src dst p) (h1 : P.underlying src = some (.int k')) (h2 : P.underlying dst = some (.int k)) (hx : cX P src p = some x) (h : (CI.cnv k x).sem fr s = some (d, s')) : AOp LL P o fr s d s' := by
  have hp : p ∈ o.op.operands := by rw [ho]; simp [Op.operands]
  obtain ⟨hc, rfl⟩ := ret_inv h
  obtain ⟨u, hu, hc1⟩ := bind_inv hc
  obtain ⟨v, hv, hu1⟩ := bind_inv hu
  split at hc1
  · rename_i kk n
    obtain rfl := Option.some.inj hc1
    refine AOp.pure fun B kc a w hops hst => ⟨.int k (k.wrap n), ?_, .d (RD.sc _)⟩
    unfold execOp; rw [ho]
    refine run_value ?_
    simp only [convert, Sem.run_bind, run_underlying h1, run_underlying h2, Result.andThen_ok, (ev_ok hops hp hx hv).sc_eq hu1, Conv.intToInt, Sem.run_pure]
  · cases hc1

/-- Values of operands. -/
theorem cXs_ok : ∀ {ts : List TypeId} {ps : List Operand} {xs : List X}, cXs P ts ps = some xs → ∀ (i : Nat) (x : X), xs[i]? = some x → ∃ p t, ps[i]? = some p ∧ cX P t p = some x
  | _, [], xs, h => by simp [cXs] at h; subst h; simp
  | ts, p :: ps, xs, h => by
    unfold cXs at h
    split at h
    · rename_i x xs' h1 h2
      obtain rfl := Option.some.inj h
      intro i y hy
      cases i with
      | zero => simp at hy; subst hy; exact ⟨p, _, rfl, h1⟩
      | succ i => exact cXs_ok h2 i y (by simpa using hy)
    · cases h
theorem cXs_len : ∀ {ts : List TypeId} {ps : List Operand} {xs : List X}, cXs P ts ps = some xs → xs.length = ps.length
  | _, [], xs, h => by simp [cXs] at h; subst h; rfl
  | ts, p :: ps, xs, h => by
    unfold cXs at h
    split at h
    · rename_i x xs' h1 h2
      obtain rfl := Option.some.inj h
      simp [cXs_len h2]
    · cases h
theorem evA_get : ∀ {xs : List X} {vs : List AV}, evA fr xs = some vs → vs.length = xs.length ∧ ∀ (i : Nat) (v : AV), vs[i]? = some v → ∃ x, xs[i]? = some x ∧ x.ev fr = some v
  | [], vs, h => by simp [evA] at h; subst h; simp
  | x :: xs, vs, h => by
    obtain ⟨v, hv, h1⟩ := bind_inv (show ((x.ev fr).bind fun v => (evA fr xs).map (v :: ·)) = some vs from h)
    obtain ⟨vs', h2, rfl⟩ := map_inv h1
    obtain ⟨k1, k2⟩ := evA_get h2
    refine ⟨by simp [k1], fun i y hy => ?_⟩
    cases i with
    | zero => simp at hy; subst hy; exact ⟨x, rfl, hv⟩
    | succ i => exact k2 i y (by simpa using hy)
theorem evs_ok {k : Cfg} {w : World} {a : Act} (hops : Ops k w a o fr) {ts : List TypeId} {ps : List Operand} {xs : List X} (hx : cXs P ts ps = some xs) (hps : ∀ p ∈ ps, p ∈ o.op.operands) {vs : List AV} (hv : evA fr xs = some vs) : RVs k w (ps.map a.eval) vs := by
  obtain ⟨l1, l2⟩ := evA_get hv
  refine ⟨by simp [l1, cXs_len hx], fun i u c hu hc => ?_⟩
  obtain ⟨x, h1, h2⟩ := l2 i c hc
  obtain ⟨p, t, h3, h4⟩ := cXs_ok hx i x h1
  rw [List.getElem?_map, h3] at hu
  obtain rfl := Option.some.inj hu
  exact ev_ok hops (hps p (List.mem_of_getElem? h3)) h4 h2

theorem ok_mkf {f : FuncId} {ps qs : Array Operand} {xs ys : List X} (ho : o.op = .makeFunc (.func f) ps qs) (hx : cXs P [] ps.toList = some xs) (hy : cXs P [] qs.toList = some ys) (h : (CI.mkf f xs ys).sem fr s = some (d, s')) : AOp LL P o fr s d s' := by
  obtain ⟨hc, rfl⟩ := ret_inv h
  obtain ⟨us, hus, hc1⟩ := bind_inv hc
  obtain ⟨vs, hvs, rfl⟩ := map_inv hc1
  refine AOp.pure fun B k a w hops hst => ?_
  have h1 := evs_ok hops hx (fun p hp => by rw [ho]; simp only [Op.operands]; simp at hp ⊢; exact .inl hp) hus
  have h2 := evs_ok hops hy (fun p hp => by rw [ho]; simp only [Op.operands]; simp at hp ⊢; exact .inr hp) hvs
  refine ⟨.func (.func f) (ps.toList.map a.eval).toArray (qs.toList.map a.eval).toArray, ?_, .clo h1.1 h2.1 h1.2 h2.2⟩
  unfold execOp; rw [ho]
  refine run_value ?_
  have e1 : ∀ (ps : Array Operand), ps.map a.eval = (ps.toList.map a.eval).toArray := fun ps => by apply Array.ext'; simp
  simp only [Instr.makeFunc, e1, Sem.run_pure]

/-! ### Structs -/

theorem zCells_ok {t : TypeId} {us : List Value} (h1 : ∀ u ∈ us, u.oneCell' = true) (k : Cfg) (w : World) : RAs k w us (zCells P t us) := by
  refine ⟨by simp [zCells], h1, fun i u d hu hd => ?_⟩
  unfold zCells at hd
  simp only [List.getElem?_map, List.getElem?_zipIdx, Nat.zero_add] at hd
  rw [hu] at hd
  simp at hd
  subst hd
  exact cL_ok ..

theorem fold_set : ∀ (vs : List Value) (j off : Nat) (cs : Array Value), off + j + vs.length ≤ cs.size → ((vs.zipIdx j).foldl (fun (cs : Array Value) (x : Value × Nat) => cs.setIfInBounds (off + x.2) x.1) cs).toList = cs.toList.take (off + j) ++ vs ++ cs.toList.drop (off + j + vs.length)
  | [], j, off, cs, h => by simp
  | v :: vs, j, off, cs, h => by
    simp only [List.length_cons] at h
    rw [List.zipIdx_cons, List.foldl_cons, fold_set vs (j + 1) off _ (by simp; omega)]
    have hlt : off + j < cs.toList.length := by simp; omega
    rw [Array.toList_setIfInBounds]
    refine List.ext_getElem? fun i => ?_
    simp only [List.append_assoc, List.getElem?_append, List.getElem?_take, List.getElem?_drop, List.getElem?_set, List.length_take, List.length_set, List.length_cons, List.getElem?_cons, List.length_append]
    repeat' split
    all_goals first
      | rfl
      | omega
      | (congr 1; omega)
      | (exfalso; omega)
      | (simp_all; done)
      | (rename_i h1 h2 h3; simp at *; omega)

theorem fill_ok {k : Cfg} {w : World} {a : Act} (hops : Ops k w a o fr) {place : Nat → Option (Nat × Nat)} {ty : Nat → TypeId} : ∀ {ps : List (Nat × Operand)} {qs : List (Nat × Nat × X)} {arr : Array Value} {cs cs' : List AV},
    cParts P place ty ps = some qs → (∀ x ∈ ps, x.2 ∈ o.op.operands) → RAs k w arr.toList cs → fillA fr cs qs = some cs' →
    ∃ arr', Instr.fill place arr (ps.map fun x => (x.1, a.eval x.2)) = some arr' ∧ RAs k w arr'.toList cs'
  | [], qs, arr, cs, cs', h1, _, h3, h4 => by
    simp [cParts] at h1; subst h1
    simp [fillA] at h4; subst h4
    exact ⟨arr, rfl, h3⟩
  | (i, p) :: ps, qs, arr, cs, cs', h1, h2, h3, h4 => by
    unfold cParts at h1
    split at h1
    · rename_i off size x l' e1 e2 e3
      obtain rfl := Option.some.inj h1
      unfold fillA at h4
      obtain ⟨vs, hvs, h5⟩ := bind_inv h4
      split at h5
      · rename_i hcc
        obtain ⟨c, hc1, hc2⟩ := bind_inv hvs
        have hcells := (ev_ok hops (h2 (i, p) (by simp)) e2 hc1).cells hc2
        have hl1 : (a.eval p).cells.size = size := by have := hcells.1; simp at this; omega
        have hl2 : arr.size = cs.length := by have := h3.1; simpa using this
        have hset := fold_set (a.eval p).cells.toList 0 off arr (by simp [hl1]; omega)
        simp only [Nat.add_zero, Array.length_toList, hl1] at hset
        have hras : RAs k w ((((a.eval p).cells.toList.zipIdx 0).foldl (fun (cs : Array Value) (x : Value × Nat) => cs.setIfInBounds (off + x.2) x.1) arr)).toList (cs.take off ++ vs ++ cs.drop (off + size)) := by
          rw [hset]
          exact ((h3.take off).append hcells).append (h3.drop _)
        obtain ⟨arr', g1, g2⟩ := fill_ok hops e3 (fun x hx => h2 x (by simp [hx])) hras h5
        refine ⟨arr', ?_, g2⟩
        have hcond : ((decide ((a.eval p).cells.size ≠ size)) || decide (off + (a.eval p).cells.size > arr.size)) = false := by simp [hl1]; omega
        simp only [List.map_cons, Instr.fill, e1, hcond, Bool.false_eq_true, if_false]
        rw [← g1]
        congr 1
        rw [← Array.foldl_toList]
        simp
      · cases h5
    · cases h1

theorem ok_bld {t : TypeId} {parts : Array (Nat × Operand)} {z : List AV} {qs : List (Nat × Nat × X)} (ho : o.op = .build t parts) (hc : compBuild P t parts.toList = some (.bld z qs)) (h : (CI.bld z qs).sem fr s = some (d, s')) : AOp LL P o fr s d s' := by
  obtain ⟨hh, rfl⟩ := ret_inv h
  obtain ⟨cs', hcs, rfl⟩ := map_inv hh
  have hmem : ∀ x ∈ parts.toList, x.2 ∈ o.op.operands := fun x hx => by
    rw [ho]; simp only [Op.operands]; simp; exact ⟨x.1, by simpa using hx⟩
  refine AOp.pure fun B k a w hops hst => ?_
  have key : ∃ arr', P.built t (parts.toList.map fun x => (x.1, a.eval x.2)) = some arr' ∧ RAs k w arr'.toList cs' := by
    unfold compBuild at hc
    split at hc
    · rename_i it fs hit hu
      split at hc
      · rename_i z0 places hz hpl
        split at hc
        · rename_i hone
          obtain ⟨qs', hq, he⟩ := Option.map_eq_some_iff.1 hc
          cases he
          obtain ⟨arr', g1, g2⟩ := fill_ok (a := a) hops hq hmem (zCells_ok (P := P) (t := t) (fun u hu => Array.all_eq_true_iff_forall_mem.1 hone u (by simpa using hu)) k w) hcs
          exact ⟨arr', by unfold Program.built; simp only [hit, hu, hz, hpl]; exact g1, g2⟩
        · cases hc
      · cases hc
    · rename_i it n e hit hu
      split at hc
      · rename_i z0 ie hz hie
        split at hc
        · rename_i hone
          obtain ⟨qs', hq, he⟩ := Option.map_eq_some_iff.1 hc
          cases he
          obtain ⟨arr', g1, g2⟩ := fill_ok (a := a) hops hq hmem (zCells_ok (P := P) (t := t) (fun u hu => Array.all_eq_true_iff_forall_mem.1 hone u (by simpa using hu)) k w) hcs
          exact ⟨arr', by unfold Program.built; simp only [hit, hu, hz, hie]; exact g1, g2⟩
        · cases hc
      · cases hc
    · cases hc
  obtain ⟨arr', g1, g2⟩ := key
  refine ⟨.agg arr', ?_, ?_⟩
  · unfold execOp; rw [ho]
    refine run_value (run_build w t _ arr' ?_)
    rw [← g1]; simp
  · have : arr' = arr'.toList.toArray := by simp
    rw [this]
    exact .agg g2.1 g2.2.1 g2.2.2
end
end Go.Bb
