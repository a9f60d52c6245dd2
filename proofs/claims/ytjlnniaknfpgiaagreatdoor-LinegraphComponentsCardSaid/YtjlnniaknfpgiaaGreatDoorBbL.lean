/-
  Part BbL of this claim's proof. Joined by merge.py from the texts of wip/tpl.
-/
import Derived.Test.YtjlnniaknfpgiaaGreatDoorGI
set_option linter.unusedVariables false
set_option linter.unusedSimpArgs false
set_option linter.unnecessarySimpa false
set_option linter.unusedVariables false
namespace Go.Bb
open Go Go.RowKit Go.Ab Go.Proofs.Lg

theorem EndK.mono {Q Q' : Exit → Fr → List AObj → Prop} {fr : Fr} {i : Nat} {s : List AObj} (h : EndK Q fr i s) (hq : ∀ e fr s, Q e fr s → Q' e fr s) : EndK Q' fr i s := by
  unfold EndK at h ⊢
  split at h
  · refine ⟨h.1, ?_⟩
    have h2 := h.2
    split at h2
    · exact hq _ _ _ h2
    · exact hq _ _ _ h2
    · exact hq _ _ _ h2
  · exact h
theorem RngK.mono {P : Program} {rd : Option Nat} {n : Nat} {f : X} {ps : List Nat} {x y : CC} {Q Q' : Exit → Fr → List AObj → Prop} {fr : Fr} {s : List AObj} (h : RngK P rd n f ps x y Q fr s) (hq : ∀ e fr s, Q e fr s → Q' e fr s) : RngK P rd n f ps x y Q' fr s :=
  let ⟨h1, g, fs, cs, h2, h3⟩ := h; ⟨h1, g, fs, cs, h2, h3.mono fun _ _ h => h.mono hq⟩

def wpK (P : Program) (rd : Option Nat) : CC → (Exit → Fr → List AObj → Prop) → Fr → List AObj → Prop
  | .skip, Q, fr, s => Q .normal fr s
  | .ops dr bf l, Q, fr, s => wpC P l (OpsQ dr bf Q) [] fr s
  | .seq a b, Q, fr, s => wpK P rd a (SeqQ (wpK P rd b Q) Q) fr s
  | .cond c a b, Q, fr, s => match (c.ev fr).bind AV.bool? with
    | some v => Both v (wpK P rd b Q fr s) (wpK P rd a Q fr s)
    | none => False
  | .block id c, Q, fr, s => wpK P rd c (BlockQ id Q) fr s
  | .loop c, Q, fr, s => LoopP (wpK P rd c) Q fr s
  | .exit id, Q, fr, s => Q (.exit id) fr s
  | .ret, Q, fr, s => Q .ret fr s
  | .rng n f ps x y, Q, fr, s => RngK P rd n f ps x y Q fr s
  | .trim keep c, Q, fr, s => wpK P rd c Q (restr keep fr) s

theorem wpC_mono {P : Program} : ∀ {l : List CO} {K K' : Fr → List AObj → List Nat → Prop} (_ : ∀ fr s fl, K fr s fl → K' fr s fl) {acc : List Nat} {fr : Fr} {s : List AObj}, wpC P l K acc fr s → wpC P l K' acc fr s
  | [], K, K', hk, acc, fr, s, h => hk _ _ _ h
  | o :: l, K, K', hk, acc, fr, s, h => by
    unfold wpC at h ⊢
    split at h
    · exact h
    · rename_i b hb
      refine ⟨fun e => wpC_mono hk (h.1 e), fun e => ?_⟩
      have h2 := h.2 e
      split at h2
      · split at h2
        · exact h2.mono fun _ _ _ h => wpC_mono hk h
        · exact h2
      · split at h2
        · rename_i d s' hd; exact wpC_mono hk h2
        · exact h2

theorem wpK_mono {P : Program} {rd : Option Nat} : ∀ {c : CC} {Q Q' : Exit → Fr → List AObj → Prop} {fr : Fr} {s : List AObj}, wpK P rd c Q fr s → (∀ e fr s, Q e fr s → Q' e fr s) → wpK P rd c Q' fr s
  | .skip, Q, Q', fr, s, h, hq => hq _ _ _ h
  | .ops dr bf l, Q, Q', fr, s, h, hq => wpC_mono (fun _ _ _ h => ⟨h.1, hq _ _ _ h.2⟩) h
  | .seq a b, Q, Q', fr, s, h, hq => wpK_mono (c := a) h fun e fr s h2 => by
      cases e with
      | normal => exact wpK_mono (c := b) h2 hq
      | _ => exact hq _ _ _ h2
  | .cond c a b, Q, Q', fr, s, h, hq => by
    unfold wpK at h ⊢
    split at h
    · exact ⟨fun e => wpK_mono (h.1 e) hq, fun e => wpK_mono (h.2 e) hq⟩
    · exact h
  | .block id c, Q, Q', fr, s, h, hq => wpK_mono (c := c) h fun e fr s h2 => by
      rw [BlockQ_eq] at h2 ⊢; exact hq _ _ _ h2
  | .loop c, Q, Q', fr, s, h, hq => by
    obtain ⟨Inv, h1, h2⟩ := h
    refine ⟨Inv, h1, fun m fr s hi => wpK_mono (h2 m fr s hi) fun e fr s h3 => ?_⟩
    cases e with
    | normal => exact h3
    | _ => exact hq _ _ _ h3
  | .exit id, Q, Q', fr, s, h, hq => hq _ _ _ h
  | .ret, Q, Q', fr, s, h, hq => hq _ _ _ h
  | .rng n f ps x y, Q, Q', fr, s, h, hq => RngK.mono h hq
  | .trim keep c, Q, Q', fr, s, h, hq => wpK_mono (c := c) h hq

/-- A loop that is still to be walked. -/
def LoopK (P : Program) (rd : Option Nat) (c : CC) (Q : Exit → Fr → List AObj → Prop) (fr : Fr) (s : List AObj) : Prop := LoopP (wpK P rd c) Q fr s

def CallQ (P : Program) (l : List CO) (K : Fr → List AObj → List Nat → Prop) (acc : List Nat) (fr : Fr) (dst : Option Nat) (d : AV) (s : List AObj) (fl : Nat) : Prop := wpC P l K (fl :: acc) (putF fr dst d) s
section
variable (P : Program) (rd : Option Nat) (Q : Exit → Fr → List AObj → Prop) (fr : Fr) (s : List AObj)
theorem wpK_skip : wpK P rd .skip Q fr s = Q .normal fr s := propext Iff.rfl
theorem wpK_ops (dr : Bool) (bf : List Nat) (l : List CO) : wpK P rd (.ops dr bf l) Q fr s = wpC P l (OpsQ dr bf Q) [] fr s := propext Iff.rfl
theorem wpK_seq (a b : CC) : wpK P rd (.seq a b) Q fr s = wpK P rd a (SeqQ (wpK P rd b Q) Q) fr s := propext Iff.rfl
theorem wpK_cond (c : X) (a b : CC) : wpK P rd (.cond c a b) Q fr s = match (c.ev fr).bind AV.bool? with
    | some v => Both v (wpK P rd b Q fr s) (wpK P rd a Q fr s)
    | none => False := propext Iff.rfl
theorem wpK_block (id : Nat) (c : CC) : wpK P rd (.block id c) Q fr s = wpK P rd c (BlockQ id Q) fr s := propext Iff.rfl
theorem wpK_loop (c : CC) : wpK P rd (.loop c) Q fr s = LoopK P rd c Q fr s := propext Iff.rfl
theorem wpK_exit (id : Nat) : wpK P rd (.exit id) Q fr s = Q (.exit id) fr s := propext Iff.rfl
theorem wpK_ret : wpK P rd .ret Q fr s = Q .ret fr s := propext Iff.rfl
theorem wpK_rng (n : Nat) (f : X) (ps : List Nat) (x y : CC) : wpK P rd (.rng n f ps x y) Q fr s = RngK P rd n f ps x y Q fr s := propext Iff.rfl
theorem wpC_nil (K : Fr → List AObj → List Nat → Prop) (acc : List Nat) : wpC P [] K acc fr s = K fr s acc.reverse := propext Iff.rfl
theorem CallQ_eq (l : List CO) (K : Fr → List AObj → List Nat → Prop) (acc : List Nat) (dst : Option Nat) (d : AV) (fl : Nat) : CallQ P l K acc fr dst d s fl = wpC P l K (fl :: acc) (putF fr dst d) s := propext Iff.rfl
theorem wpC_cons (o : CO) (l : List CO) (K : Fr → List AObj → List Nat → Prop) (acc : List Nat) : wpC P (o :: l) K acc fr s = match gdC fr o.g with
    | none => False
    | some b => Both b (wpC P l K (0 :: acc) (putF fr o.dst undefA) s) (match o.ci with
      | .call c xs => match calleeA fr c, evA fr xs with
        | some cv, some vs => CallM P cv vs s (CallQ P l K acc fr o.dst)
        | _, _ => False
      | ci => match ci.sem fr s with
        | some (d, s') => wpC P l K (ci.mark fr :: acc) (putF fr o.dst d) s'
        | none => False) := propext Iff.rfl
end

/-- The rule of a loop. -/
theorem LoopK.intro {P : Program} {rd : Option Nat} {c : CC} {Q : Exit → Fr → List AObj → Prop} {fr : Fr} {s : List AObj} (Inv : Nat → Fr → List AObj → Prop) (m : Nat) (fr0 : Fr) (hs : Sub fr0 fr) (h0 : Inv m fr0 s)
    (h : ∀ m fr s, Inv m fr s → wpK P rd c (SeqQ (fun fr' s' => ∃ m' fr'', m' < m ∧ Sub fr'' fr' ∧ Inv m' fr'' s') Q) fr s) : LoopK P rd c Q fr s := ⟨Inv, ⟨m, fr0, hs, h0⟩, h⟩

/-- Sub, slot by slot. -/
def SubB : Fr → Fr → Prop
  | [], _ => True
  | (t, x) :: r, fr => look fr t = some x ∧ SubB r fr
theorem SubB.sub : ∀ {r fr : Fr}, SubB r fr → Sub r fr
  | [], fr, _ => Sub.nil fr
  | (_, _) :: _, _, h => Sub.cons h.1 (SubB.sub h.2)

/-- A loop whose state is told by a datum, with a measure. -/
theorem LoopK.at {P : Program} {rd : Option Nat} {c : CC} {Q : Exit → Fr → List AObj → Prop} {fr : Fr} {s : List AObj} {β : Type} (F : β → Fr) (S : β → List AObj) (I : Nat → β → Prop) (m : Nat) (b : β) (hs : SubB (F b) fr) (hS : s = S b) (h0 : I m b)
    (h : ∀ m b, I m b → wpK P rd c (SeqQ (fun fr' s' => ∃ m' b', m' < m ∧ SubB (F b') fr' ∧ s' = S b' ∧ I m' b') Q) (F b) (S b)) : LoopK P rd c Q fr s := by
  refine LoopK.intro (fun m fr s => ∃ b, fr = F b ∧ s = S b ∧ I m b) m (F b) hs.sub ⟨b, rfl, hS, h0⟩ ?_
  rintro m _ _ ⟨b, rfl, rfl, hi⟩
  refine wpK_mono (h m b hi) fun e fr' s' hq => ?_
  cases e with
  | normal => obtain ⟨m', b', h1, h2, h3, h4⟩ := hq; exact ⟨m', F b', h1, h2.sub, b', rfl, h3, h4⟩
  | _ => exact hq

/-- A loop that counts up to n. -/
theorem LoopK.count {P : Program} {rd : Option Nat} {c : CC} {Q : Exit → Fr → List AObj → Prop} {fr : Fr} {s : List AObj} (F : Nat → Fr) (S : Nat → List AObj) (I : Nat → Prop) (n : Nat) (hs : SubB (F 0) fr) (hS : s = S 0) (h0 : I 0)
    (h : ∀ k, k ≤ n → I k → wpK P rd c (SeqQ (fun fr' s' => k < n ∧ SubB (F (k + 1)) fr' ∧ s' = S (k + 1) ∧ I (k + 1)) Q) (F k) (S k)) : LoopK P rd c Q fr s := by
  refine LoopK.at F S (fun m k => k ≤ n ∧ m = n - k ∧ I k) n 0 hs hS ⟨Nat.zero_le _, by omega, h0⟩ ?_
  rintro m k ⟨hk, hm, hi⟩
  refine wpK_mono (h k hk hi) fun e fr' s' hq => ?_
  cases e with
  | normal => obtain ⟨h1, h2, h3, h4⟩ := hq; exact ⟨n - (k + 1), k + 1, by omega, h2, h3, by omega, rfl, h4⟩
  | _ => exact hq

/-- A loop that counts up to n and leaves own blocks behind. -/
theorem LoopK.countJ {P : Program} {rd : Option Nat} {c : CC} {Q : Exit → Fr → List AObj → Prop} {fr : Fr} {s : List AObj} (F : Nat → Fr) (S : Nat → List AObj → List AObj) (I : Nat → Prop) (n : Nat) (J0 : List AObj) (hs : SubB (F 0) fr) (hS : s = S 0 J0) (h0 : I 0)
    (h : ∀ k J, k ≤ n → I k → wpK P rd c (SeqQ (fun fr' s' => k < n ∧ SubB (F (k + 1)) fr' ∧ (∃ J', s' = S (k + 1) J') ∧ I (k + 1)) Q) (F k) (S k J)) : LoopK P rd c Q fr s := by
  refine LoopK.at (fun b : Nat × List AObj => F b.1) (fun b => S b.1 b.2) (fun m b => b.1 ≤ n ∧ m = n - b.1 ∧ I b.1) n (0, J0) hs hS ⟨Nat.zero_le _, by simp, h0⟩ ?_
  rintro m ⟨k, J⟩ ⟨hk, hm, hi⟩
  refine wpK_mono (h k J hk hi) fun e fr' s' hq => ?_
  cases e with
  | normal => obtain ⟨h1, h2, ⟨J', h3⟩, h4⟩ := hq; exact ⟨n - (k + 1), (k + 1, J'), by dsimp only at hm hk; omega, h2, h3, by dsimp only; omega, rfl, h4⟩
  | _ => exact hq

theorem wpK_ok {P : Program} {N : Nat} {rd : Option Nat} : ∀ {cc : CC} {Q : Exit → Fr → List AObj → Prop} {fr : Fr} {s : List AObj}, wpK P rd cc Q fr s → AC P N rd cc Q fr s
  | .skip, Q, fr, s, hw => AC.skip hw
  | .ops dr bf l, Q, fr, s, hw => AC.ops hw
  | .seq a b, Q, fr, s, hw => AC.seq ((wpK_ok (cc := a) hw).mono fun e fr' s' hq => by
      cases e with
      | normal => exact wpK_ok (cc := b) hq
      | _ => exact hq)
  | .cond c a b, Q, fr, s, hw => by
    unfold wpK at hw
    split at hw
    · rename_i v hv
      refine AC.cond hv ?_
      cases v with
      | true => exact wpK_ok (hw.2 rfl)
      | false => exact wpK_ok (hw.1 rfl)
    · exact hw.elim
  | .block id c, Q, fr, s, hw => AC.block (wpK_ok (cc := c) hw)
  | .loop c, Q, fr, s, hw => by
    obtain ⟨Inv, ⟨m, fr0, hs, h0⟩, hround⟩ := hw
    exact AC.loop Inv hs h0 fun m fr s hi => wpK_ok (hround m fr s hi)
  | .exit id, Q, fr, s, hw => AC.exit hw
  | .ret, Q, fr, s, hw => AC.ret hw
  | .rng n f ps x y, Q, fr, s, hw => AC.rng hw
  | .trim keep c, Q, fr, s, hw => AC.trim (wpK_ok (cc := c) hw)

/-! ### Rounds -/

def putL : Fr → List (Nat × AV) → Fr
  | fr, [] => fr
  | fr, (t, x) :: l => putL (putF fr (some t) x) l

/-- What is to hold behind a round. -/
def RoundQ (id : Nat) (K : AV → List AObj → Prop) (e : Exit) (s : List AObj) : Prop := match s[id]? with
  | some (.loop l) => match e with
    | .normal => K (.d (.sc (.bool true))) (s.set id (.loop { l with st := .ready, pend := none }))
    | .ret => K (.d (.sc (.bool false))) (s.set id (.loop { l with st := .done, pend := some .ret }))
    | .exit t => K (.d (.sc (.bool false))) (s.set id (.loop { l with st := .done, pend := some (.exit t) }))
    | _ => False
  | _ => False
/-- The record's state written: it was ready. -/
def BeginQ (id : Nat) (K : List AObj → Prop) (s : List AObj) : Prop := match s[id]? with
  | some (.loop l) => l.st = .ready ∧ K (s.set id (.loop { l with st := .busy }))
  | _ => False
/-- A round that is still to be walked. -/
def YldK (P : Program) (id : Nat) (xs : List AV) (s : List AObj) (K : AV → List AObj → Prop) : Prop := match s[id]? with
  | some (.loop l) => xs.length = l.ps.length ∧ l.ps.all (fun t => decide (t < l.N)) = true ∧
      wpK P (some id) l.ca (SeqQ (fun fr s => BeginQ id (wpK P (some id) l.cb (fun e _ s => RoundQ id K e s) fr) s) fun _ _ _ => False) (putL l.fr (l.ps.zip xs)) s
  | _ => False
/-- The same, met by runs. -/
def YldA (P : Program) (id : Nat) (xs : List AV) (s : List AObj) (K : AV → List AObj → Prop) : Prop := match s[id]? with
  | some (.loop l) => xs.length = l.ps.length ∧ l.ps.all (fun t => decide (t < l.N)) = true ∧
      AC P l.N (some id) l.ca (SeqQ (fun fr s => BeginQ id (AC P l.N (some id) l.cb (fun e _ s => RoundQ id K e s) fr) s) fun _ _ _ => False) (putL l.fr (l.ps.zip xs)) s
  | _ => False
theorem BeginQ.mono {id : Nat} {K K' : List AObj → Prop} {s : List AObj} (h : BeginQ id K s) (hk : ∀ s, K s → K' s) : BeginQ id K' s := by
  unfold BeginQ at h ⊢
  split at h
  · exact ⟨h.1, hk _ h.2⟩
  · exact h
theorem YldK.toA {P : Program} {id : Nat} {xs : List AV} {s : List AObj} {K : AV → List AObj → Prop} (h : YldK P id xs s K) : YldA P id xs s K := by
  unfold YldK at h
  unfold YldA
  split at h
  · refine ⟨h.1, h.2.1, (wpK_ok h.2.2).mono fun e fr s hq => ?_⟩
    cases e with
    | normal => exact BeginQ.mono hq fun s h => wpK_ok h
    | _ => exact hq
  · exact h

theorem FR.putL {k : Cfg} {w : World} {N : Nat} : ∀ {ps : List Nat} {vs : List Value} {xs : List AV} {ts : Array Value} {fr : Fr}, ts.size = N → (∀ p ∈ ps, p < N) → (∀ (i : Nat) (v : Value) (x : AV), vs[i]? = some v → xs[i]? = some x → RA k w v x) → vs.length = ps.length → xs.length = ps.length →
    (∀ t x, look fr t = some x → RA k w (ts.getD t undef) x) →
    ((ps.zip vs).foldl (fun ts (t, v) => ts.setIfInBounds t v) ts).size = N ∧ ∀ t x, look (Bb.putL fr (ps.zip xs)) t = some x → RA k w (((ps.zip vs).foldl (fun ts (t, v) => ts.setIfInBounds t v) ts).getD t undef) x
  | [], vs, xs, ts, fr, hN, _, _, _, _, hf => ⟨hN, hf⟩
  | p :: ps, v :: vs, x :: xs, ts, fr, hN, hp, hv, h1, h2, hf => by
    refine FR.putL (ps := ps) (vs := vs) (xs := xs) (ts := ts.setIfInBounds p v) (fr := putF fr (some p) x) (by simpa using hN) (fun q hq => hp q (by simp [hq])) (fun i v x h h' => hv (i + 1) v x (by simpa using h) (by simpa using h')) (by simpa using h1) (by simpa using h2) fun t y hy => ?_
    have hlt : p < ts.size := by rw [hN]; exact hp p (by simp)
    rw [look_putF] at hy
    rw [Array.getD_eq_getD_getElem?, Array.getElem?_setIfInBounds]
    by_cases e : p = t
    · subst e
      simp at hy; subst hy
      simp [hlt]
      exact hv 0 v x rfl rfl
    · rw [if_neg (fun h => e (Option.some.inj h))] at hy
      rw [if_neg e, ← Array.getD_eq_getD_getElem?]
      exact hf t y hy
  | _ :: _, [], _, _, _, _, _, _, h1, _, _ => by simp at h1
  | _ :: _, _ :: _, [], _, _, _, _, _, _, h2, _ => by simp at h2

theorem YldRuns.of {P : Program} {id : Nat} {xs : List AV} {s : List AObj} {K : AV → List AObj → Prop} (h : YldA P id xs s K) : ∃ d s', YldRuns (LLc P) P id xs s d s' ∧ K d s' := by
  unfold YldA at h
  split at h
  · rename_i l hl
    obtain ⟨hlen, hall, hw⟩ := h
    obtain ⟨e, fr1, s1, hq, hr1⟩ := hw
    cases e with
    | normal =>
      have hq' : BeginQ id (AC P l.N (some id) l.cb (fun e _ s => RoundQ id K e s) fr1) s1 := hq
      unfold BeginQ at hq'
      split at hq'
      · rename_i l1 hl1
        obtain ⟨hrdy, hw2⟩ := hq'
        obtain ⟨e2, fr2, s2, hq2, hr2⟩ := hw2
        unfold RoundQ at hq2
        split at hq2
        · rename_i l2 hl2
          obtain ⟨j, hj, hK⟩ : ∃ j : Option Jmp, ((e2 = .normal ∧ j = none) ∨ (e2 = .ret ∧ j = some .ret) ∨ ∃ t, e2 = .exit t ∧ j = some (.exit t)) ∧ K (.d (.sc (.bool j.isNone))) (s2.set id (.loop { l2 with st := if j.isNone then .ready else .done, pend := j })) := by
            split at hq2
            · exact ⟨none, .inl ⟨rfl, rfl⟩, hq2⟩
            · exact ⟨some .ret, .inr (.inl ⟨rfl, rfl⟩), hq2⟩
            · exact ⟨some (.exit _), .inr (.inr ⟨_, rfl, rfl⟩), hq2⟩
            · exact hq2.elim
          refine ⟨_, _, ?_, hK⟩
          intro B k w vs b hst hvs hown
          obtain ⟨b', r, g1, g2, g3, gI⟩ := hst.loop hl
          rw [hown] at g1; cases g1
          obtain ⟨q1, q2, q3, q4, q5, q6, q7⟩ := g3
          have hsz : vs.toArray.size = r.params.size := by
            have : r.params.toList.length = l.ps.length := by rw [q5]
            simpa [hvs.1, hlen] using this.symm
          refine ⟨_, _, _, _, run_yield g2 hsz, ?_⟩
          have hzip : (r.params.zip vs.toArray).foldl (fun tmps (t, a) => tmps.setIfInBounds t a) r.tmps = (l.ps.zip vs).foldl (fun ts (t, v) => ts.setIfInBounds t v) r.tmps := by
            rw [← Array.foldl_toList]; simp [q5]
          rw [hzip]
          obtain ⟨f1, f2⟩ := FR.putL (k := k) (w := w) (N := l.N) (ps := l.ps) (vs := vs) (xs := xs) (ts := r.tmps) (fr := l.fr) q3 (fun p hp => by simpa using List.all_eq_true.1 hall p hp) hvs.2 (by rw [hvs.1, hlen]) hlen q4
          refine roundIn_of_wpIn trivial (wpIn_mono (hr1 r.assign q6 B k { tmps := (l.ps.zip vs).foldl (fun ts (t, v) => ts.setIfInBounds t v) r.tmps, defers := [] } w (some b) hown f1 f2 hst) ?_)
          rintro e' a1 w1 ⟨rfl, k1, p1, p2, p3, p4, p5⟩
          obtain ⟨b'', r1, g1', g2', g3', gI'⟩ := p5.loop hl1
          have hown1 : k1.own[id]? = some (.blk b) := OwnLe.blk' p3.mono hown
          rw [hown1] at g1'; cases g1'
          obtain ⟨t1, t2, t3, t4, t5, t6, t7⟩ := g3'
          obtain ⟨m1, m2, m3⟩ := loop_upd p5 (l' := { l1 with st := .busy }) (r' := { r1 with state := .busy }) hl1 hown1 g2' gI' fun hm => ⟨rfl, t2, t3, fun t z hz => (t4 t z hz).mono hm, t5, t6, t7⟩
          refine ⟨_, run_beginRound g2' (by rw [t1]; exact hrdy), ?_⟩
          refine wpIn_mono (hr2 r.body q7 B k1 a1 _ (some b) hown1 p1 (fun t z hz => (p4 t z hz).mono m1) m3) ?_
          rintro e3 a2 w2 ⟨rfl, k2, u1, u2, u3, u4, u5⟩
          obtain ⟨b3, r2, g1'', g2'', g3'', gI''⟩ := u5.loop hl2
          have hown2 : k2.own[id]? = some (.blk b) := OwnLe.blk' u3.mono hown1
          rw [hown2] at g1''; cases g1''
          obtain ⟨y1, y2, y3, y4, y5, y6, y7⟩ := g3''
          have fin : ∃ v w', (Instr.endRound b (j.map Jmp.code)).run P w2 = .ok v w' ∧ ∃ v' k', Ending.returned v = Ending.returned v' ∧ RA k' w' v' (.d (.sc (.bool j.isNone))) ∧ Ext B k w k' w' ∧ St (LLc P) B k' (s2.set id (.loop { l2 with st := if j.isNone then .ready else .done, pend := j })) w' := by
            have hnone : (j.map Jmp.code).isNone = j.isNone := by cases j <;> rfl
            obtain ⟨z1, z2, z3⟩ := loop_upd u5 (l' := { l2 with st := if j.isNone then .ready else .done, pend := j }) (r' := { r2 with state := if (j.map Jmp.code).isNone then .ready else .done, pending := j.map Jmp.code }) hl2 hown2 g2'' gI'' fun hm => ⟨by rw [hnone], rfl, y3, fun t z hz => (y4 t z hz).mono hm, y5, y6, y7⟩
            refine ⟨_, _, run_endRound (j.map Jmp.code) g2'', .bool (j.map Jmp.code).isNone, k2, rfl, ?_, ((p3.trans m2).trans u3).trans z2, z3⟩
            rw [hnone]; exact .d (.sc _)
          rcases hj with ⟨rfl, rfl⟩ | ⟨rfl, rfl⟩ | ⟨t, rfl, rfl⟩
          · exact fin
          · exact fin
          · exact fin
        · exact hq2.elim
      · exact hq'.elim
    | _ => exact hq.elim
  · exact h.elim

/-! ### Functions -/

/-- What a function returns: a slot; cells of an own variable. -/
inductive CR where
  | tmp (t : Nat)
  | cell (t : Nat) (n : Option Nat)
def cR (P : Program) : ResultVar → Option CR
  | .tmp t => some (.tmp t)
  | .cell t ty => (szOf P ty).map (.cell t)
def cRs (P : Program) : List ResultVar → Option (List CR)
  | [] => some []
  | r :: l => match cR P r, cRs P l with
    | some c, some cs => some (c :: cs)
    | _, _ => none
structure CF where
  n : Nat
  body : CC
  res : List CR
def CF.erase (F : CF) : CF := ⟨F.n, F.body.erase, F.res⟩
def compFn (P : Program) (mus : List Nat) (f : FuncId) : Option CF :=
  match P.funcs[f]? with
  | some fn => match fn.body with
    | some c => if fn.name == "runtime.NumGoroutine" then none else match comp P mus fn.ntmps c, cRs P fn.results.toList with
      | some cc, some rs => some ⟨fn.ntmps, cc, rs⟩
      | _, _ => none
    | none => none
  | none => none

def resOne (fr : Fr) (s : List AObj) : CR → Option AV
  | .tmp t => look fr t
  | .cell t n => (look fr t).bind fun v => rdLd (objOf s v) n v
def resAll (fr : Fr) (s : List AObj) : List CR → Option (List AV)
  | [] => some []
  | r :: l => (resOne fr s r).bind fun x => (resAll fr s l).map (x :: ·)
def tupA : List AV → AV
  | [x] => x
  | l => .tup l
def resA (fr : Fr) (s : List AObj) (rs : List CR) : Option AV := (resAll fr s rs).map tupA

/-- What is to hold at a function's end. -/
def RetQ (rs : List CR) (K : AV → List AObj → Prop) : Exit → Fr → List AObj → Prop
  | .normal, fr, s => ∃ d, resA fr s rs = some d ∧ K d s
  | .ret, fr, s => ∃ d, resA fr s rs = some d ∧ K d s
  | _, _, _ => False

theorem ld_ok {P : Program} {LL : Nat → Code → CC → Prop} {B : Nat} {k : Cfg} {w : World} {s : List AObj} {t : TypeId} {n : Option Nat} {u : Value} {v d : AV} (hst : St LL B k s w) (hn : szOf P t = some n) (hr : RA k w u v) (hd : rdLd (objOf s v) n v = some d) : ∃ y, (Instr.loadAt t u).run P w = .ok y w ∧ RA k w y d := by
  unfold rdLd at hd
  split at hd
  · have h1 := hr.d_inv
    cases h1 with
    | ref b off us ds h1 h2 h3 h4 => exact load_pickD (P := P) (base := off) (off := 0) (fun i u hu => (h3 i u hu).2) ⟨h1, h2, h4⟩ hn hd
  · rename_i id off
    obtain ⟨cs, hcs, hd⟩ := bind_inv hd
    obtain ⟨b, hb, hvv⟩ := hr.ptr_inv
    obtain ⟨b', t', us, g1, g2, g3, _⟩ := hst.cells (cellsO_inv hcs)
    rw [hb] at g1; cases g1
    obtain ⟨y, hy1, hy2⟩ := load_pickM (P := P) (base := 0) (off := off) (b := b) (fun i u hu => by rw [Nat.zero_add, cells_at g2]; exact hu) g3 hn hd
    rw [Nat.zero_add] at hy1
    exact ⟨y, by rw [hvv]; exact hy1, hy2⟩
  · rename_i id m off
    obtain ⟨⟨sz, ds⟩, hcs, hd⟩ := bind_inv hd
    obtain ⟨e, hid, hsz, hlen⟩ := vecO_inv hcs
    obtain ⟨b, hvv, hb⟩ := hr.vptr_inv
    obtain ⟨u, xs, cap, cur, g1, g2, rfl, g3, g4, g5, g6, g7, g8, g9, g10, g11⟩ := vec_at hst hid hsz hlen hb
    obtain ⟨y, hy1, hy2⟩ := load_pickM (P := P) (base := 0) (off := off) (b := b) (fun i u hu => by rw [Nat.zero_add]; exact g11 i u hu) g9 hn hd
    rw [Nat.zero_add] at hy1
    exact ⟨y, by rw [hvv]; exact hy1, hy2⟩
  · cases hd

theorem resOne_ok {P : Program} {rv : ResultVar} {c : CR} (h : cR P rv = some c) {fr : Fr} {s : List AObj} {d : AV} (hd : resOne fr s c = some d) {LL : Nat → Code → CC → Prop} {B : Nat} {k : Cfg} {a : Act} {w : World} (hf : FR k w a fr) (hs : St LL B k s w) :
    ∃ v, (match rv with
      | .tmp t => pure (a.tmps.getD t undef)
      | .cell a' t => do loadVar t (← asAddr (a.tmps.getD a' undef)) : Sem Value).run P w = .ok v w ∧ RA k w v d := by
  cases rv with
  | tmp t =>
    simp [cR] at h; subst h
    exact ⟨_, rfl, hf t _ hd⟩
  | cell t ty =>
    unfold cR at h
    obtain ⟨n, hn, rfl⟩ := Option.map_eq_some_iff.1 h
    obtain ⟨v, hv, hd⟩ := bind_inv (show (look fr t).bind (fun v => rdLd (objOf s v) n v) = some d from hd)
    have hr := hf t v hv
    obtain ⟨y, hy1, hy2⟩ := ld_ok hs hn hr hd
    refine ⟨y, ?_, hy2⟩
    have hp : ∃ p, a.tmps.getD t undef = .pointer (some p) := by
      unfold rdLd at hd
      split at hd
      · have h1 := hr.d_inv
        generalize a.tmps.getD t undef = z at h1
        cases h1; exact ⟨_, rfl⟩
      · obtain ⟨b, _, e⟩ := hr.ptr_inv; exact ⟨_, e⟩
      · obtain ⟨b, e, _⟩ := hr.vptr_inv; exact ⟨_, e⟩
      · cases hd
    obtain ⟨p, hp⟩ := hp
    show (do loadVar ty (← asAddr (a.tmps.getD t undef)) : Sem Value).run P w = .ok y w
    rw [hp] at hy1 ⊢
    simp only [Instr.loadAt, Instr.sureAddr, Sem.run_bind, Sem.run_pure, Result.andThen_ok] at hy1
    simp only [asAddr, Sem.run_bind, Sem.run_pure, Result.andThen_ok, hy1]

theorem resAll_ok {P : Program} {LL : Nat → Code → CC → Prop} {fr : Fr} {s : List AObj} {B : Nat} {k : Cfg} {a : Act} {w : World} (hf : FR k w a fr) (hs : St LL B k s w) : ∀ {rvs : List ResultVar} {cs : List CR} {ds : List AV}, cRs P rvs = some cs → resAll fr s cs = some ds →
    ∃ vs : List Value, (rvs.mapM fun rv => (match rv with
      | .tmp t => pure (a.tmps.getD t undef)
      | .cell a' t => do loadVar t (← asAddr (a.tmps.getD a' undef)) : Sem Value)).run P w = .ok vs w ∧ RVs k w vs ds
  | [], cs, ds, h, hd => by
    simp [cRs] at h; subst h
    simp [resAll] at hd; subst hd
    exact ⟨[], rfl, rfl, by simp⟩
  | rv :: rvs, cs, ds, h, hd => by
    unfold cRs at h
    split at h
    · rename_i c cs' h1 h2
      obtain rfl := Option.some.inj h
      obtain ⟨d, h3, hd⟩ := bind_inv (show (resOne fr s c).bind (fun x => (resAll fr s cs').map (x :: ·)) = some ds from hd)
      obtain ⟨ds', h4, rfl⟩ := map_inv hd
      obtain ⟨v, hv1, hv2⟩ := resOne_ok h1 h3 hf hs
      obtain ⟨vs, hvs1, hvs2⟩ := resAll_ok hf hs h2 h4
      refine ⟨v :: vs, ?_, by simp [hvs2.1], fun i x y hx hy => ?_⟩
      · rw [List.mapM_cons]
        simp only [Sem.run_bind, hv1, Result.andThen_ok, hvs1, Sem.run_pure]
      · cases i with
        | zero => simp at hx hy; subst hx; subst hy; exact hv2
        | succ i => exact hvs2.2 i x y (by simpa using hx) (by simpa using hy)
    · cases h

theorem results_ok {P : Program} {fn : Func} {rs : List CR} (hr : cRs P fn.results.toList = some rs) {LL : Nat → Code → CC → Prop} {fr : Fr} {s : List AObj} {r : AV} (hd : resA fr s rs = some r) {B : Nat} {k : Cfg} {a : Act} {w : World} (hf : FR k w a fr) (hs : St LL B k s w) :
    ∃ v, (results fn a.tmps).run P w = .ok v w ∧ RA k w v r := by
  obtain ⟨ds, hds, rfl⟩ := map_inv hd
  obtain ⟨vs, h1, h2⟩ := resAll_ok hf hs hr hds
  have h3 : (results fn a.tmps).run P w = .ok (if h : vs.toArray.size = 1 then vs.toArray[0] else .tuple vs.toArray) w := by
    unfold results
    rw [← Array.toArray_toList (xs := fn.results), List.mapM_toArray]
    simp only [Sem.run_bind, Sem.run_map, Sem.run_pure]
    erw [h1]
    rfl
  refine ⟨_, h3, ?_⟩
  match ds, vs, h2 with
  | [d], [v], h2 => exact h2.2 0 v d rfl rfl
  | [], [], h2 => exact .tup rfl h2.2
  | d :: d' :: ds, v :: v' :: vs, h2 =>
    rw [dif_neg (by simp)]
    exact .tup h2.1 h2.2
  | [], _ :: _, h2 => simp [RVs] at h2
  | _ :: _, [], h2 => simp [RVs] at h2
  | [_], _ :: _ :: _, h2 => simp [RVs] at h2
  | _ :: _ :: _, [_], h2 => simp [RVs] at h2

def argF : Nat → List AV → Fr
  | _, [] => []
  | i, x :: l => (i, x) :: argF (i + 1) l
theorem look_argF : ∀ (xs : List AV) (n t : Nat), look (argF n xs) t = if n ≤ t then xs[t - n]? else none
  | [], n, t => by simp [argF, look]
  | x :: l, n, t => by
    unfold argF look
    rw [look_argF l (n + 1) t]
    by_cases e : n = t
    · subst e; simp
    · rw [if_neg e]
      by_cases h : n ≤ t
      · rw [if_pos h, if_pos (by omega), show t - n = (t - (n + 1)) + 1 by omega]; rfl
      · rw [if_neg h, if_neg (by omega)]

/-- A function that is still to be walked. -/
def FnK (P : Program) (f : FuncId) (xs : List AV) (s : List AObj) (K : AV → List AObj → Prop) : Prop := ∃ d s', FnRuns (LLc P) P f xs s d s' ∧ K d s'
theorem FnK.mono {P : Program} {f : FuncId} {xs : List AV} {s : List AObj} {K K' : AV → List AObj → Prop} (h : FnK P f xs s K) (hk : ∀ d s, K d s → K' d s) : FnK P f xs s K' := let ⟨d, s', h1, h2⟩ := h; ⟨d, s', h1, hk _ _ h2⟩

theorem FnK.ofA {P : Program} {mus : List Nat} {f : FuncId} {F : CF} (hc : compFn P mus f = some F.erase) {xs : List AV} {s : List AObj} {K : AV → List AObj → Prop} (hxs : xs.length ≤ F.n) (h : AC P F.n none F.body (RetQ F.res K) (argF 0 xs) s) : FnK P f xs s K := by
  unfold compFn at hc
  split at hc
  · rename_i fn hfn
    split at hc
    · rename_i c hbody
      split at hc
      · cases hc
      · rename_i hname
        split at hc
        · rename_i cc rs h1 h2
          have hF := Option.some.inj hc
          obtain ⟨e1, e2, e3⟩ : fn.ntmps = F.n ∧ cc = F.body.erase ∧ rs = F.res := by
            unfold CF.erase at hF
            injection hF with e1 e2 e3
            exact ⟨e1, e2, e3⟩
          rw [← e1] at h hxs
          rw [← e3] at h
          rw [e2] at h1
          obtain ⟨e, fr', s', hq, hr⟩ := h
          have hx : ∃ d, (e = .normal ∨ e = .ret) ∧ resA fr' s' rs = some d ∧ K d s' := by
            cases e with
            | normal => obtain ⟨d, h3, h4⟩ := hq; exact ⟨d, .inl rfl, h3, h4⟩
            | ret => obtain ⟨d, h3, h4⟩ := hq; exact ⟨d, .inr rfl, h3, h4⟩
            | _ => exact hq.elim
          obtain ⟨d, he, hd, hk⟩ := hx
          refine ⟨d, s', FnRuns.of hfn hbody (by simpa using hname) he hxs (fun k w vs hvs t x hx => ?_) (hr c ⟨mus, h1⟩) (fun B k a w hf hs => results_ok h2 hd hf hs), hk⟩
          rw [look_argF] at hx
          simp only [Nat.zero_le, if_true, Nat.sub_zero] at hx
          have ht := (List.getElem?_eq_some_iff.1 hx).1
          have hl := hvs.1
          have hv : vs[t]? = some vs[t] := List.getElem?_eq_getElem (by omega)
          have hg : (vs.toArray ++ Array.replicate (fn.ntmps - vs.toArray.size) undef).getD t undef = vs[t] := by
            rw [Array.getD_eq_getD_getElem?, Array.getElem?_append_left (by simp; omega)]
            simp [hv]
          show RA k w ((vs.toArray ++ Array.replicate (fn.ntmps - vs.toArray.size) undef).getD t undef) x
          rw [hg]; exact hvs.2 t _ x hv hx
        · cases hc
    · cases hc
  · cases hc
theorem FnK.of {P : Program} {mus : List Nat} {f : FuncId} {F : CF} (hc : compFn P mus f = some F.erase) {xs : List AV} {s : List AObj} {K : AV → List AObj → Prop} (hxs : xs.length ≤ F.n) (h : wpK P none F.body (RetQ F.res K) (argF 0 xs) s) : FnK P f xs s K := FnK.ofA hc hxs (wpK_ok h)

/-- A call met by a walk of the callee's code, in the caller's store. -/
theorem CallM.fn {P : Program} {f : FuncId} {fs cs vs : List AV} {s : List AObj} {K : AV → List AObj → Nat → Prop} (h : FnK P f (fs ++ vs ++ cs) s fun d s' => K d s' 2) : CallM P (.clo f fs cs) vs s K :=
  let ⟨d, s', h1, h2⟩ := h; .inr (.inl ⟨d, s', h1, h2⟩)
theorem CallM.yld {P : Program} {id : Nat} {vs : List AV} {s : List AObj} {K : AV → List AObj → Nat → Prop} (h : YldK P id vs s fun d s' => K d s' 2) : CallM P (.yld id) vs s K :=
  let ⟨d, s', h1, h2⟩ := YldRuns.of h.toA; .inr (.inl ⟨d, s', h1, h2⟩)
theorem CallK.fn {P : Program} {f : FuncId} {fs cs vs : List AV} {s : List AObj} {K : AV → List AObj → Prop} (h : FnK P f (fs ++ vs ++ cs) s K) : CallK (LLc P) P (.clo f fs cs) vs s K :=
  let ⟨d, s', h1, h2⟩ := h; ⟨d, s', h1, h2⟩
end Go.Bb
