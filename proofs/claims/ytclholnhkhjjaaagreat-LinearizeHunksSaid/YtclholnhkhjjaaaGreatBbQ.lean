/-
  Part BbQ of this claim's proof. Joined by merge.py from the texts of wip/tpl.
-/
import Derived.Test.YtclholnhkhjjaaaGreatGAG
set_option linter.unusedVariables false
set_option linter.unusedSimpArgs false
set_option linter.unnecessarySimpa false
set_option linter.unusedVariables false
namespace Go.Bb
open Go Go.RowKit Go.Ab Go.Proofs.Lg
def gdC (fr : Fr) : Option (Option Nat × Bool) → Option Bool
 | none => some true
 | some (none, _) => some false
 | some (some t, want) => match look fr t with
   | some (.d (.sc (.bool b))) => some (b == want)
   | some (.d (.sc (.tuple _))) => some false
   | _ => none
def compB (P : Program) (mus : List Nat) (o : Oper) : Option CI := match compOp P mus o with
 | some ci => some ci
 | none => if notDefer o then some .bad else none
def compO (P : Program) (mus : List Nat) (ops : Array Oper) (o : Oper) : Option CO :=
 match compB P mus o with
 | some ci => some ⟨o.dst, match o.guard with
   | none => none
   | some (j, want) => some ((ops[j]?).bind (·.dst), want), ci⟩
 | none => none
def compL (P : Program) (mus : List Nat) (ops : Array Oper) : List Oper → Option (List CO)
 | [] => some []
 | o :: l => match compO P mus ops o, compL P mus ops l with
   | some c, some cs => some (c :: cs)
   | _, _ => none
def comp (P : Program) (mus : List Nat) (N : Nat) : Code → Option CC
 | .skip => some .skip
 | .label _ => some .skip
 | .region _ ops dr => if ops.all (fun o => match o.dst with | some d => decide (d < N) | none => true) && (!dr || (P.follows .mixedOrders && ordB ops [])) then
     (compL P mus ops ops.toList).map fun l => .ops dr (if dr then (Region.before ops).toList else []) l else none
 | .seq a b => match comp P mus N a, comp P mus N b with
   | some a, some b => some (.seq a b)
   | _, _ => none
 | .cond c a b => match cX P 0 c, comp P mus N a, comp P mus N b with
   | some c, some a, some b => some (.cond c a b)
   | _, _, _ => none
 | .block id c => (comp P mus N c).map (.block id)
 | .loop c => (comp P mus N c).map .loop
 | .exit id => some (.exit id)
 | .ret => some .ret
 | _ => none
def CC.erase : CC → CC
 | .trim _ c => c.erase
 | .seq a b => .seq a.erase b.erase
 | .cond x a b => .cond x a.erase b.erase
 | .block id c => .block id c.erase
 | .loop c => .loop c.erase
 | .skip => .skip
 | .ops dr bf l => .ops dr bf l
 | .exit id => .exit id
 | .ret => .ret
def LLc (P : Program) : Nat → Code → CC → Prop := fun N c cc => ∃ mus, comp P mus N c = some cc.erase
section
variable {P : Program} {N : Nat} {rd : Option Nat}
def RunsC (P : Program) (N : Nat) (rd : Option Nat) (cc : CC) (fr : Fr) (s : List AObj) (e : Exit) (fr' : Fr) (s' : List AObj) : Prop :=
 ∀ c, LLc P N c cc → Runs (LLc P) P N rd c fr s e fr' s'
def AC (P : Program) (N : Nat) (rd : Option Nat) (cc : CC) (Q : Exit → Fr → List AObj → Prop) (fr : Fr) (s : List AObj) : Prop :=
 ∃ e fr' s', Q e fr' s' ∧ RunsC P N rd cc fr s e fr' s'
structure AFn (P : Program) (f : FuncId) (args : List D) (r : D) : Prop where
 enters : Enters P f
 calls : ∀ (I : Nat → Nat) (w : World) (vs : List Value), vs.length = args.length → (∀ (i : Nat) (v : Value) (d : D), vs[i]? = some v → args[i]? = some d → RD I w v d) →
   Calls P f vs.toArray w fun e w' => ∃ v, e = .returned v ∧ RD (bigI I w.heap.size w') w' v r ∧ Below w.heap.size w w'
def toDs : List AV → Option (List D)
 | [] => some []
 | x :: l => x.toD.bind fun d => (toDs l).map (d :: ·)
theorem toDs_get : ∀ {xs : List AV} {ds : List D}, toDs xs = some ds → ds.length = xs.length ∧ ∀ (i : Nat) (d : D), ds[i]? = some d → ∃ x, xs[i]? = some x ∧ x.toD = some d
 | [], ds, h => by simp [toDs] at h; subst h; simp
 | x :: xs, ds, h => by
   obtain ⟨d, hd, h1⟩ := bind_inv (show (x.toD.bind fun d => (toDs xs).map (d :: ·)) = some ds from h)
   obtain ⟨ds', h2, rfl⟩ := map_inv h1
   obtain ⟨k1, k2⟩ := toDs_get h2
   refine ⟨by simp [k1], fun i y hy => ?_⟩
   cases i with
   | zero => simp at hy; subst hy; exact ⟨x, rfl, hd⟩
   | succ i => exact k2 i y (by simpa using hy)
theorem AFn.runs {LL : Nat → Code → CC → Prop} {f : FuncId} {ds : List D} {r : D} (h : AFn P f ds r) {xs : List AV} (hx : toDs xs = some ds) (s : List AObj) : FnRuns LL P f xs s (.d r) s := by
 refine ⟨h.enters, fun B k w vs hst hvs => ?_⟩
 obtain ⟨l1, l2⟩ := toDs_get hx
 refine Calls.mono (h.calls k.I w vs (by rw [hvs.1, l1]) fun i v d hv hd => ?_) ?_
 · obtain ⟨x, h1, h2⟩ := l2 i d hd
   exact (hvs.2 i v x hv h1).toD h2
 · rintro e w' ⟨v, rfl, hv, hb⟩
   exact ⟨v, ⟨bigI k.I w.heap.size w', k.own⟩, rfl, .d hv, Ext.called hst.base hb, hst.called hb⟩
def calleeA (fr : Fr) : Callee' → Option AV
 | .fn f => some (.clo f [] [])
 | .val x => x.ev fr
def CallM (P : Program) (cv : AV) (vs : List AV) (s : List AObj) (K : AV → List AObj → Nat → Prop) : Prop :=
 (∃ d, (∀ s2, CalRuns (LLc P) P cv vs s2 d s2) ∧ K d s 0) ∨ (∃ d s', CalRuns (LLc P) P cv vs s d s' ∧ K d s' 2) ∨ (∃ d, (∀ s2, Agrees s s2 → CalRuns (LLc P) P cv vs s2 d s2) ∧ K d s 1) ∨ (∃ d xs, CalRuns (LLc P) P cv vs s d (s ++ xs) ∧ K d (s ++ xs) 3)
theorem CallM.mono {cv : AV} {vs : List AV} {s : List AObj} {K K' : AV → List AObj → Nat → Prop} (h : CallM P cv vs s K) (hk : ∀ d s fl, K d s fl → K' d s fl) : CallM P cv vs s K' := by
 rcases h with ⟨d, h1, h2⟩ | ⟨d, s', h1, h2⟩ | ⟨d, h1, h2⟩ | ⟨d, xs, h1, h2⟩
 · exact .inl ⟨d, h1, hk _ _ _ h2⟩
 · exact .inr (.inl ⟨d, s', h1, hk _ _ _ h2⟩)
 · exact .inr (.inr (.inl ⟨d, h1, hk _ _ _ h2⟩))
 · exact .inr (.inr (.inr ⟨d, xs, h1, hk _ _ _ h2⟩))
theorem CallM.data {f : FuncId} {fs cs vs : List AV} {s : List AObj} {K : AV → List AObj → Nat → Prop} {ds : List D} {r : D} (h : AFn P f ds r) (hd : toDs (fs ++ vs ++ cs) = some ds) (hk : K (.d r) s 0) : CallM P (.clo f fs cs) vs s K :=
 .inl ⟨_, fun s2 => h.runs hd s2, hk⟩
theorem CallM.run {cv : AV} {vs : List AV} {s : List AObj} {K : AV → List AObj → Nat → Prop} {d : AV} {s' : List AObj} (h : CalRuns (LLc P) P cv vs s d s') (hk : K d s' 2) : CallM P cv vs s K := .inr (.inl ⟨d, s', h, hk⟩)
theorem cal_fn {fr : Fr} {c : Callee'} {cv : AV} (hc : calleeA fr c = some cv) {o : Oper} {p : Operand} (hp : (∃ f, c = .fn f ∧ p = .func f) ∨ (∃ x, c = .val x ∧ cX P 0 p = some x ∧ p ∈ o.op.operands)) {k : Cfg} {w : World} {a : Act} (hops : Ops k w a o fr) : RA k w (a.eval p) cv := by
 rcases hp with ⟨f, rfl, rfl⟩ | ⟨x, rfl, hx, hmem⟩
 · obtain rfl := Option.some.inj hc
   exact .clo (us := []) (vs := []) rfl rfl (by simp) (by simp)
 · exact ev_ok hops hmem hx hc
theorem compRow_form {fz mu : Bool} {t : TypeId} {n : Nat} {parts : List (Nat × Operand)} {ci : CI} (h : compRow P fz mu t n parts = some ci) : (∃ a b c d, ci = .bsf a b c d) ∨ (∃ a b c d e f, ci = .bsl a b c d e f) := by
 unfold compRow at h
 split at h
 · split at h
   · split at h
     · split at h
       · obtain ⟨qs, _, he⟩ := Option.map_eq_some_iff.1 h
         cases fz with
         | true => exact .inl ⟨_, _, _, _, he.symm⟩
         | false => exact .inr ⟨_, _, _, _, _, _, he.symm⟩
       · cases h
     · cases h
   · cases h
 · cases h
theorem compOp_call {mus : List Nat} {o : Oper} {c : Callee'} {xs : List X} (h : compOp P mus o = some (.call c xs)) :
   ∃ p ps ts, o.op = .call { callee := .value p, args := ps, argTypes := ts } ∧ cXs P ts.toList ps.toList = some xs ∧ ((∃ f, c = .fn f ∧ p = .func f) ∨ (∃ x, c = .val x ∧ cX P 0 p = some x ∧ p ∈ o.op.operands)) := by
 unfold compOp at h
 split at h
 all_goals first
   | (rename_i c' ho
      obtain ⟨callee, args, tys⟩ := c'
      unfold compCall at h
      dsimp only at h
      split at h
      · unfold compLen at h
        (repeat' split at h) <;> first | (cases h; done) | (injection h with h; cases h)
      · unfold compApp at h
        (repeat' split at h) <;> first | (cases h; done) | (injection h with h; cases h)
      · rename_i g
        obtain ⟨y, hy, he⟩ := Option.map_eq_some_iff.1 h
        injection he with e1 e2
        subst e1; subst e2
        exact ⟨.func g, args, tys, ho, hy, .inl ⟨g, rfl, rfl⟩⟩
      · rename_i p _
        split at h
        · rename_i x ys h1 h2
          injection h with h
          injection h with e1 e2
          subst e1; subst e2
          exact ⟨p, args, tys, ho, h2, .inr ⟨x, rfl, h1, by rw [ho]; simp [Op.operands, Call.operands]⟩⟩
        · cases h
      · cases h)
   | (exfalso; obtain ⟨y, hy, he⟩ := Option.map_eq_some_iff.1 h; cases he; done)
   | (exfalso; unfold compBuild at h; (repeat' split at h) <;> first | (cases h; done) | (obtain ⟨qs, _, he⟩ := Option.map_eq_some_iff.1 h; cases he; done))
   | (exfalso; have hr := compRow_form h; rcases hr with ⟨_, _, _, _, he⟩ | ⟨_, _, _, _, _, _, he⟩ <;> (cases he; done))
   | (exfalso; unfold compMks at h; (repeat' split at h) <;> first | (cases h; done) | (injection h with h; cases h; done))
   | (exfalso; unfold compBin at h; (repeat' split at h) <;> first | (cases h; done) | (injection h with h; cases h; done))
   | (exfalso; unfold compIad at h; (repeat' split at h) <;> first | (cases h; done) | (injection h with h; cases h; done))
   | (exfalso; unfold compSlice at h; (repeat' split at h) <;> first | (cases h; done) | (injection h with h; cases h; done))
   | (exfalso; unfold compLookup at h; (repeat' split at h) <;> first | (cases h; done) | (injection h with h; cases h; done))
   | (exfalso; unfold compMup at h; (repeat' split at h) <;> first | (cases h; done) | (injection h with h; cases h; done))
   | (exfalso; (repeat' split at h) <;> first | (cases h; done) | (obtain ⟨qs, _, he⟩ := Option.map_eq_some_iff.1 h; cases he; done) | (injection h with h; cases h))
theorem ok_call {LL : Nat → Code → CC → Prop} {o : Oper} {fr : Fr} {s s' : List AObj} {d : AV} {p : Operand} {ps : Array Operand} {ts : Array TypeId} {xs : List X} {cv : AV} {vs : List AV} (ho : o.op = .call { callee := .value p, args := ps, argTypes := ts })
   (hc : ∀ (k : Cfg) (w : World) (a : Act), Ops k w a o fr → RA k w (a.eval p) cv) (hx : cXs P ts.toList ps.toList = some xs) (hv : evA fr xs = some vs) (h : CalRuns LL P cv vs s d s') : AOp LL P o fr s d s' := by
 intro B k a w hops hst hnd r QQ
 refine ⟨fun f _ => FW_fn r f, ?_⟩
 rw [FW_round, semAt_plain hnd]
 have hargs : RVs k w (ps.toList.map a.eval) vs := evs_ok hops hx (fun q hq => by rw [ho]; simp only [Op.operands, Call.operands]; simp at hq ⊢; exact .inr hq) hv
 have hcv := hc k w a hops
 have harr : ps.map a.eval = (ps.toList.map a.eval).toArray := by apply Array.ext'; simp
 have hdep : (FW r).depth.isSome = true → 1 ≤ 0 := fun h => by rw [FW_depth] at h; cases h
 cases cv with
 | clo f fs cs =>
   obtain ⟨us, ws, he, h1, h2⟩ := hcv.clo_inv
   have hrun : (execOp a.eval o).run P w = .ok (.enter f (us ++ ps.toList.map a.eval ++ ws).toArray) w := by
     unfold execOp; rw [ho]
     simp only [resolve, he, Deferred.ofValue, Sem.run_bind, Sem.run_pure, Result.andThen_ok, invoke]
     have : us.toArray ++ Array.map a.eval ps ++ ws.toArray = (us ++ ps.toList.map a.eval ++ ws).toArray := by rw [harr]; simp
     rw [this]
     exact h.enters _ w
   rw [hrun, Oper.uponIn_enter]
   refine ⟨hdep, callsIn_FW (Calls.mono (h.calls B k w _ hst ((h1.append hargs).append h2)) ?_)⟩
   rintro e w' ⟨v, k', rfl, q1, q2, q3⟩
   exact ⟨v, rfl, k', q1, q2, q3⟩
 | yld id =>
   obtain ⟨b, hb, he⟩ := hcv.yld_inv
   obtain ⟨fn, tmps, assign, body, hy, hround⟩ := h B k w _ b hst hargs hb
   have hrun : (execOp a.eval o).run P w = .ok (.round b fn tmps assign body) w := by
     unfold execOp; rw [ho]
     simp only [resolve, he, Deferred.ofValue, Sem.run_bind, Sem.run_pure, Result.andThen_ok, invoke, Array.empty_append]
     rw [harr]; exact hy
   rw [hrun, Oper.uponIn_round]
   refine ⟨hdep, roundIn_FW (RoundIn.mono hround ?_)⟩
   rintro e w' ⟨v, k', rfl, q1, q2, q3⟩
   exact ⟨v, rfl, k', q1, q2, q3⟩
 | _ => exact h.elim
def Both (b : Bool) (x y : Prop) : Prop := (b = false → x) ∧ (b = true → y)
theorem Both_true (x y : Prop) : Both true x y = y := by simp [Both]
theorem Both_false (x y : Prop) : Both false x y = x := by simp [Both]
@[congr] theorem Both_congr (b b' : Bool) (x y : Prop) (h : b = b') : Both b x y = Both b' x y := by rw [h]
def wpC (P : Program) : List CO → (Fr → List AObj → List Nat → Prop) → List Nat → Fr → List AObj → Prop
 | [], K, acc, fr, s => K fr s acc.reverse
 | o :: l, K, acc, fr, s => match gdC fr o.g with
   | none => False
   | some b => Both b (wpC P l K (0 :: acc) (putF fr o.dst undefA) s) (match o.ci with
     | .call c xs => match calleeA fr c, evA fr xs with
       | some cv, some vs => CallM P cv vs s fun d s' fl => wpC P l K (fl :: acc) (putF fr o.dst d) s'
       | _, _ => False
     | ci => match ci.sem fr s with
       | some (d, s') => wpC P l K (ci.mark fr :: acc) (putF fr o.dst d) s'
       | none => False)
theorem gdC_gd {mus : List Nat} {ops : Array Oper} {o : Oper} {c : CO} (h : compO P mus ops o = some c) (fr : Fr) : gdC fr c.g = gd ops fr o := by
 unfold compO at h
 split at h
 · obtain rfl := Option.some.inj h
   unfold gd gdC
   cases hg : o.guard with
   | none => rfl
   | some jw =>
     obtain ⟨j, want⟩ := jw
     dsimp only
     cases hd : (ops[j]?).bind (·.dst) with
     | none => rfl
     | some t => rfl
 · cases h
theorem compO_inv {mus : List Nat} {ops : Array Oper} {o : Oper} {c : CO} (h : compO P mus ops o = some c) : (compOp P mus o = some c.ci ∨ (c.ci = .bad ∧ notDefer o = true)) ∧ c.dst = o.dst := by
 unfold compO at h
 split at h
 · rename_i ci hc
   obtain rfl := Option.some.inj h
   refine ⟨?_, rfl⟩
   unfold compB at hc
   split at hc
   · rename_i ci' hc'; obtain rfl := Option.some.inj hc; exact .inl hc'
   · split at hc
     · rename_i hn; obtain rfl := Option.some.inj hc; exact .inr ⟨rfl, hn⟩
     · cases hc
 · cases h
theorem compL_cons {mus : List Nat} {ops : Array Oper} {l : List Oper} {c : CO} {cs : List CO} (h : compL P mus ops l = some (c :: cs)) : ∃ o l', l = o :: l' ∧ compO P mus ops o = some c ∧ compL P mus ops l' = some cs := by
 cases l with
 | nil => simp [compL] at h
 | cons o l' =>
   unfold compL at h
   split at h
   · rename_i c' cs' h1 h2
     cases h
     exact ⟨o, l', rfl, h1, h2⟩
   · cases h
theorem compL_nil {mus : List Nat} {ops : Array Oper} {l : List Oper} (h : compL P mus ops l = some []) : l = [] := by
 cases l with
 | nil => rfl
 | cons o l' =>
   unfold compL at h
   split at h
   · cases h
   · cases h
theorem RA.hdl_lt {k : Cfg} {w : World} {u : Value} {v : AV} {id : Nat} (h : RA k w u v) (hv : v.hdl = some id) : id < k.own.length := by
 have lt : ∀ {o : Own}, k.own[id]? = some o → id < k.own.length := fun h => (List.getElem?_eq_some_iff.1 h).1
 cases h with
 | ptr h => cases hv; exact lt h
 | vec h1 h2 => cases hv; obtain ⟨u, n, h3, _⟩ := h2; exact lt h3
 | vptr h => cases hv; obtain ⟨u, n, h3, _⟩ := h; exact lt h3
 | win h1 h2 h3 => cases hv; exact lt h1
 | mp h => cases hv; exact lt h
 | _ => cases hv
theorem vecId_hdl {v : AV} {id : Nat} (h : v.vecId = some id) : v.hdl = some id := by
 cases v <;> first | exact h | cases h
theorem use_slot {mus : List Nat} {o : Oper} {ci : CI} (h : compOp P mus o = some ci) {fr : Fr} {id : Nat} (hu : ci.use fr = some id) : ∃ p t x v, p ∈ o.op.operands ∧ cX P t p = some x ∧ x.ev fr = some v ∧ v.hdl = some id := by
 have no : ∀ {ci' : CI}, ci' = ci → ci'.use fr = none → False := fun e hn => by rw [e, hu] at hn; cases hn
 unfold compOp at h
 split at h
 case h_4 =>
   rename_i t x ho
   split at h
   · rename_i n x' h1 h2
     obtain rfl := Option.some.inj h
     obtain ⟨v, hv, hid⟩ := bind_inv (show (x'.ev fr).bind AV.hdl = some id from hu)
     exact ⟨x, 0, x', v, by rw [ho]; simp [Op.operands], h2, hv, hid⟩
   · cases h
 case h_7 =>
   rename_i t x i ho
   unfold compIad at h
   split at h
   · rename_i e x' y h1 h2 h3
     split at h
     · obtain rfl := Option.some.inj h
       obtain ⟨v, hv, hid⟩ := bind_inv (show (x'.ev fr).bind AV.vecId = some id from hu)
       exact ⟨x, 0, x', v, by rw [ho]; simp [Op.operands], h2, hv, vecId_hdl hid⟩
     · cases h
   · cases h
 all_goals first
   | (rename_i t m k ok ho
      unfold compLookup at h
      split at h
      · split at h
        · rename_i m' k' ks z h1 h2 h3 h4
          obtain rfl := Option.some.inj h
          obtain ⟨v, hv, hid⟩ := bind_inv (show (m'.ev fr).bind AV.hdl = some id from hu)
          exact ⟨m, t, m', v, by rw [ho]; simp [Op.operands], h1, hv, hid⟩
        · cases h
      · cases h)
   | (rename_i c ho
      obtain ⟨callee, args, tys⟩ := c
      obtain ⟨args⟩ := args
      obtain ⟨tys⟩ := tys
      unfold compCall at h
      dsimp only at h
      split at h
      · unfold compLen at h
        split at h
        · split at h
          · obtain rfl := Option.some.inj h; simp [CI.use] at hu
          · obtain rfl := Option.some.inj h; simp [CI.use] at hu
          · rename_i p t hx1 hx2 k e x' h1 h2
            obtain rfl := Option.some.inj h
            obtain ⟨v, hv, hid⟩ := bind_inv (show (x'.ev fr).bind AV.hdl = some id from hu)
            exact ⟨p, t, x', v, by rw [ho]; simp [Op.operands, Call.operands], h2, hv, hid⟩
          · cases h
        · cases h
      · exfalso; unfold compApp at h
        (repeat' split at h) <;> first | (cases h; done) | (injection h with h; exact no h rfl)
      · exfalso; obtain ⟨y, hy, he⟩ := Option.map_eq_some_iff.1 h; exact no he rfl
      · exfalso; split at h
        · injection h with h; exact no h rfl
        · cases h
      · cases h)
   | (exfalso; obtain ⟨y, hy, he⟩ := Option.map_eq_some_iff.1 h; exact no he rfl)
   | (exfalso; unfold compBuild at h; (repeat' split at h) <;> first | (cases h; done) | (obtain ⟨qs, _, he⟩ := Option.map_eq_some_iff.1 h; exact no he rfl))
   | (exfalso; have hr := compRow_form h; rcases hr with ⟨_, _, _, _, he⟩ | ⟨_, _, _, _, _, _, he⟩ <;> exact no he.symm rfl)
   | (exfalso; unfold compMks at h; (repeat' split at h) <;> first | (cases h; done) | (injection h with h; exact no h rfl))
   | (exfalso; unfold compBin at h; (repeat' split at h) <;> first | (cases h; done) | (injection h with h; exact no h rfl))
   | (exfalso; unfold compSlice at h; (repeat' split at h) <;> first | (cases h; done) | (injection h with h; exact no h rfl))
   | (exfalso; unfold compMup at h; (repeat' split at h) <;> first | (cases h; done) | (injection h with h; exact no h rfl))
   | (exfalso; (repeat' split at h) <;> first | (cases h; done) | (obtain ⟨qs, _, he⟩ := Option.map_eq_some_iff.1 h; exact no he rfl) | (injection h with h; exact no h rfl))
theorem op_readsAt {LL : Nat → Code → CC → Prop} {mus : List Nat} {o : Oper} {ci : CI} (hc : compOp P mus o = some ci) {fr : Fr} {s : List AObj} {d : AV} (h : ci.sem fr s = some (d, s)) (ht : ci.touch fr = 1) {id : Nat} (hus : ci.use fr = some id) (s2 : List AObj) (ha : AgreesAt id s s2) : AOp LL P o fr s2 d s2 := by
 have hlt := use_there h hus
 by_cases h2 : id < s2.length
 · exact compOp_ok hc (sem_local h (by omega) fun id' hid' => by rw [hus] at hid'; cases hid'; exact ha hlt h2)
 · intro B k a w hops hst
   obtain ⟨p, t, x, v, h3, h4, h5, h6⟩ := use_slot hc hus
   have := (ev_ok hops h3 h4 h5).hdl_lt h6
   rw [hst.len] at this
   exact absurd this h2
end
end Go.Bb
