/-
  Part GF of this claim's proof. Joined by merge.py from the texts of wip/tpl.
-/
import Derived.Test.YtjlnniaknfpgiaaGreatDoorBb4
import Derived.Sort.LoopGhostIn
set_option linter.unusedVariables false
set_option linter.unusedSimpArgs false
set_option linter.unnecessarySimpa false
namespace Go.Bb
open Go Go.RowKit Go.Ab

/-- Whose round a frame is. -/
def RdOk (k : Cfg) : Option Nat → Option Nat → Prop
  | none, none => True
  | some id, some l => k.own[id]? = some (.blk l)
  | _, _ => False
theorem RdOk.mono {k k' : Cfg} {w w' : World} (hm : Mono k w k' w') : ∀ {rd r : Option Nat}, RdOk k rd r → RdOk k' rd r
  | none, none, _ => trivial
  | some _, some _, h => OwnLe.blk' hm h
  | none, some _, h => h.elim
  | some _, none, h => h.elim

def mark (b : Nat) : Deferred := { target := .collected b, args := #[] }
/-- The marks that loops over functions have pushed since. -/
def Marks (w w' : World) (k' : Cfg) (D D' : List Deferred) : Prop :=
  ∃ ms : List Nat, D' = ms.map mark ++ D ∧ ms.Nodup ∧ ∀ b ∈ ms, w.heap.size ≤ b ∧ w'.heap[b]? = some (.deferred (some [])) ∧ Unowned k' b
theorem Marks.refl (w w' : World) (k' : Cfg) (D : List Deferred) : Marks w w' k' D D := ⟨[], rfl, List.nodup_nil, fun _ h => by cases h⟩
theorem Marks.same {w w' : World} {k' : Cfg} {D D' : List Deferred} (h : D' = D) : Marks w w' k' D D' := by subst h; exact Marks.refl _ _ _ _
theorem heap_lt {w : World} {b : Nat} {o : Obj} (h : w.heap[b]? = some o) : b < w.heap.size := (Array.getElem?_eq_some_iff.1 h).1
theorem Marks.trans {B : Nat} {w w' w'' : World} {k' k'' : Cfg} {D D' D'' : List Deferred} (h : Marks w w' k' D D') (hs : w.heap.size ≤ w'.heap.size) (he : Ext B k' w' k'' w'') (g : Marks w' w'' k'' D' D'') : Marks w w'' k'' D D'' := by
  obtain ⟨ms, rfl, h2, h3⟩ := h
  obtain ⟨ns, rfl, g2, g3⟩ := g
  refine ⟨ns ++ ms, by simp, List.nodup_append.2 ⟨g2, h2, fun b hb c hc e => ?_⟩, fun b hb => ?_⟩
  · subst e
    have := (g3 b hb).1
    have := heap_lt (h3 b hc).2.1
    omega
  · rcases List.mem_append.1 hb with hb | hb
    · obtain ⟨l1, l2, l3⟩ := g3 b hb; exact ⟨Nat.le_trans hs l1, l2, l3⟩
    · obtain ⟨l1, l2, l3⟩ := h3 b hb
      have hlt := heap_lt l2
      exact ⟨l1, (he.rest b hlt l3).trans l2, he.unowned hlt l3⟩

section
variable {LL : Nat → Code → CC → Prop} {P : Program} {N : Nat} {rd : Option Nat}

/-- What a run comes to. -/
def Ends (LL : Nat → Code → CC → Prop) (N B : Nat) (k : Cfg) (D : List Deferred) (w : World) (e : Exit) (fr : Fr) (s : List AObj) (e' : Exit) (a' : Act) (w' : World) : Prop :=
  e' = e ∧ ∃ k', a'.tmps.size = N ∧ Marks w w' k' D a'.defers ∧ Ext B k w k' w' ∧ FR k' w' a' fr ∧ St LL B k' s w'

/-- Code, as data: from these slots and own blocks it comes to those, by this way out. -/
def Runs (LL : Nat → Code → CC → Prop) (P : Program) (N : Nat) (rd : Option Nat) (c : Code) (fr : Fr) (s : List AObj) (e : Exit) (fr' : Fr) (s' : List AObj) : Prop :=
  ∀ (B : Nat) (k : Cfg) (a : Act) (w : World) (r : Option Nat), RdOk k rd r → a.tmps.size = N → FR k w a fr → St LL B k s w → c.wpIn (FW r) 0 P (Ends LL N B k a.defers w e fr' s') a w

def AW (LL : Nat → Code → CC → Prop) (P : Program) (N : Nat) (rd : Option Nat) (c : Code) (Q : Exit → Fr → List AObj → Prop) (fr : Fr) (s : List AObj) : Prop :=
  ∃ e fr' s', Q e fr' s' ∧ Runs LL P N rd c fr s e fr' s'

theorem Ends.trans {B : Nat} {k k' : Cfg} {D D' : List Deferred} {w w' : World} {e : Exit} {fr : Fr} {s : List AObj} {e2 : Exit} {a2 : Act} {w2 : World} (hm : Marks w w' k' D D') (he : Ext B k w k' w') (h : Ends LL N B k' D' w' e fr s e2 a2 w2) : Ends LL N B k D w e fr s e2 a2 w2 := by
  obtain ⟨h0, k2, h1, h2, h3, h4, h5⟩ := h
  exact ⟨h0, k2, h1, hm.trans he.below.size h3 h2, he.trans h3, h4, h5⟩

theorem Runs.frame {c : Code} {fr fr0 : Fr} {s : List AObj} {e : Exit} {fr' : Fr} {s' : List AObj} (h : Runs LL P N rd c fr0 s e fr' s') (hf : ∀ t x, look fr0 t = some x → look fr t = some x) : Runs LL P N rd c fr s e fr' s' :=
  fun B k a w r h0 h1 h2 h3 => h B k a w r h0 h1 (fun t x hx => h2 t x (hf t x hx)) h3
theorem AW.frame {c : Code} {Q : Exit → Fr → List AObj → Prop} {fr fr0 : Fr} {s : List AObj} (h : AW LL P N rd c Q fr0 s) (hf : ∀ t x, look fr0 t = some x → look fr t = some x) : AW LL P N rd c Q fr s :=
  let ⟨e, fr', s', hq, hr⟩ := h; ⟨e, fr', s', hq, hr.frame hf⟩
theorem AW.mono {c : Code} {Q Q' : Exit → Fr → List AObj → Prop} {fr : Fr} {s : List AObj} (h : AW LL P N rd c Q fr s) (hq : ∀ e fr s, Q e fr s → Q' e fr s) : AW LL P N rd c Q' fr s :=
  let ⟨e, fr', s', q, hr⟩ := h; ⟨e, fr', s', hq _ _ _ q, hr⟩

theorem Ends.now {B : Nat} {k : Cfg} {a : Act} {w : World} {e : Exit} {fr : Fr} {s : List AObj} (h1 : a.tmps.size = N) (h2 : FR k w a fr) (h3 : St LL B k s w) : Ends LL N B k a.defers w e fr s e a w :=
  ⟨rfl, k, h1, Marks.refl _ _ _ _, Ext.refl _ _ _, h2, h3⟩

section
variable {fr : Fr} {s : List AObj} {Q : Exit → Fr → List AObj → Prop}
theorem AW.skip (h : Q .normal fr s) : AW LL P N rd .skip Q fr s := ⟨_, _, _, h, fun _ _ _ _ _ _ h1 h2 h3 => wpIn_skip (Ends.now h1 h2 h3)⟩
theorem AW.label {l : Nat} (h : Q .normal fr s) : AW LL P N rd (.label l) Q fr s := ⟨_, _, _, h, fun _ _ _ _ _ _ h1 h2 h3 => wpIn_label (Ends.now h1 h2 h3)⟩
theorem AW.exit {id : Nat} (h : Q (.exit id) fr s) : AW LL P N rd (.exit id) Q fr s := ⟨_, _, _, h, fun _ _ _ _ _ _ h1 h2 h3 => wpIn_exit (Ends.now h1 h2 h3)⟩
theorem AW.ret (h : Q .ret fr s) : AW LL P N rd .ret Q fr s := ⟨_, _, _, h, fun _ _ _ _ _ _ h1 h2 h3 => wpIn_ret (Ends.now h1 h2 h3)⟩

def SeqQ (K : Fr → List AObj → Prop) (Q : Exit → Fr → List AObj → Prop) : Exit → Fr → List AObj → Prop
  | .normal, fr, s => K fr s
  | e, fr, s => Q e fr s

theorem Runs.seq {x y : Code} {fr1 : Fr} {s1 : List AObj} {e : Exit} {fr2 : Fr} {s2 : List AObj} (h : Runs LL P N rd x fr s .normal fr1 s1) (g : Runs LL P N rd y fr1 s1 e fr2 s2) : Runs LL P N rd (.seq x y) fr s e fr2 s2 := fun B k a w r h0 h1 h2 h3 => by
  refine wpIn_seq (wpIn_mono (h B k a w r h0 h1 h2 h3) ?_)
  rintro e' a' w' ⟨rfl, k', l1, l2, l3, l4, l5⟩
  exact wpIn_mono (g B k' a' w' r (h0.mono l3.mono) l1 l4 l5) fun e2 a2 w2 hh => hh.trans l2 l3
theorem Runs.seqX {x y : Code} {e : Exit} {fr1 : Fr} {s1 : List AObj} (he : e ≠ .normal) (h : Runs LL P N rd x fr s e fr1 s1) : Runs LL P N rd (.seq x y) fr s e fr1 s1 := fun B k a w r h0 h1 h2 h3 => by
  refine wpIn_seq (wpIn_mono (h B k a w r h0 h1 h2 h3) ?_)
  intro e' a' w' hh
  obtain ⟨rfl, hh'⟩ := hh
  cases e' with
  | normal => exact absurd rfl he
  | _ => exact ⟨rfl, hh'⟩

theorem AW.seq {x y : Code} (h : AW LL P N rd x (SeqQ (AW LL P N rd y Q) Q) fr s) : AW LL P N rd (.seq x y) Q fr s := by
  obtain ⟨e, fr1, s1, hq, hr⟩ := h
  by_cases he : e = .normal
  · subst he
    obtain ⟨e2, fr2, s2, q2, r2⟩ := hq
    exact ⟨e2, fr2, s2, q2, hr.seq r2⟩
  · refine ⟨e, fr1, s1, ?_, hr.seqX he⟩
    cases e with
    | normal => exact absurd rfl he
    | _ => exact hq

theorem AW.cond {c : Operand} {x y : Code} {v : Bool} (hc : ∀ (k : Cfg) (a : Act) (w : World), FR k w a fr → a.eval c = .bool v) (h : AW LL P N rd (if v then x else y) Q fr s) : AW LL P N rd (.cond c x y) Q fr s := by
  obtain ⟨e, fr1, s1, hq, hr⟩ := h
  exact ⟨e, fr1, s1, hq, fun B k a w r h0 h1 h2 h3 => wpIn_cond (t := v) (hc k a w h2) (hr B k a w r h0 h1 h2 h3)⟩

def BlockQ (id : Nat) (Q : Exit → Fr → List AObj → Prop) : Exit → Fr → List AObj → Prop
  | .exit id', fr, s => if id' = id then Q .normal fr s else Q (.exit id') fr s
  | e, fr, s => Q e fr s
def blockE (id : Nat) : Exit → Exit
  | .exit id' => if id' = id then .normal else .exit id'
  | e => e
theorem BlockQ_eq (id : Nat) (e : Exit) (fr : Fr) (s : List AObj) : BlockQ id Q e fr s = Q (blockE id e) fr s := by
  cases e with
  | exit id' => show (if id' = id then _ else _) = Q (if id' = id then _ else _) fr s; split <;> rfl
  | _ => rfl

theorem AW.block {id : Nat} {c : Code} (h : AW LL P N rd c (BlockQ id Q) fr s) : AW LL P N rd (.block id c) Q fr s := by
  obtain ⟨e, fr1, s1, hq, hr⟩ := h
  rw [BlockQ_eq] at hq
  refine ⟨_, fr1, s1, hq, fun B k a w r h0 h1 h2 h3 => wpIn_block (wpIn_mono (hr B k a w r h0 h1 h2 h3) ?_)⟩
  rintro e' a' w' ⟨rfl, hh⟩
  cases e' with
  | exit id' =>
    show if id' = id then _ else _
    by_cases e : id' = id
    · have hE : blockE id (.exit id') = .normal := if_pos e
      rw [if_pos e, hE]; exact ⟨rfl, hh⟩
    · have hE : blockE id (.exit id') = .exit id' := if_neg e
      rw [if_neg e, hE]; exact ⟨rfl, hh⟩
  | _ => exact ⟨rfl, hh⟩

/-- The rounds of a loop. -/
inductive LoopTr (LL : Nat → Code → CC → Prop) (P : Program) (N : Nat) (rd : Option Nat) (c : Code) (e : Exit) (fr' : Fr) (s' : List AObj) : Nat → Fr → List AObj → Prop
  | last {fr : Fr} {s : List AObj} : e ≠ .normal → Runs LL P N rd c fr s e fr' s' → LoopTr LL P N rd c e fr' s' 0 fr s
  | more {n : Nat} {fr fr1 : Fr} {s s1 : List AObj} : Runs LL P N rd c fr s .normal fr1 s1 → LoopTr LL P N rd c e fr' s' n fr1 s1 → LoopTr LL P N rd c e fr' s' (n + 1) fr s

theorem LoopTr.runs {c : Code} {e : Exit} {fr' : Fr} {s' : List AObj} {n : Nat} (h : LoopTr LL P N rd c e fr' s' n fr s) : Runs LL P N rd (.loop c) fr s e fr' s' := fun B k a w r h0 h1 h2 h3 => by
  refine wpIn_loop_ghost (fun n a1 w1 => ∃ fr1 s1 k1, LoopTr LL P N rd c e fr' s' n fr1 s1 ∧ a1.tmps.size = N ∧ Marks w w1 k1 a.defers a1.defers ∧ Ext B k w k1 w1 ∧ FR k1 w1 a1 fr1 ∧ St LL B k1 s1 w1) n
    ⟨fr, s, k, h, h1, Marks.refl _ _ _ _, Ext.refl _ _ _, h2, h3⟩ ?_
  rintro n a1 w1 ⟨fr1, s1, k1, ht, l1, l2, l3, l4, l5⟩
  cases ht with
  | last he hr =>
    refine wpIn_mono (hr B k1 a1 w1 r (h0.mono l3.mono) l1 l4 l5) fun e2 a2 w2 hh => ?_
    have hh' := hh.trans l2 l3
    obtain ⟨rfl, hh2⟩ := hh'
    cases e2 with
    | normal => exact absurd rfl he
    | _ => exact ⟨rfl, hh2⟩
  | more hr ht' =>
    refine wpIn_mono (hr B k1 a1 w1 r (h0.mono l3.mono) l1 l4 l5) ?_
    rintro e2 a2 w2 ⟨rfl, k2, m1, m2, m3, m4, m5⟩
    exact ⟨_, Nat.lt_succ_self _, _, _, k2, ht', m1, l2.trans l3.below.size m3 m2, l3.trans m3, m4, m5⟩

/-- A loop: an invariant with a measure. -/
theorem AW.loop {c : Code} (Inv : Nat → Fr → List AObj → Prop) {m : Nat} (h0 : Inv m fr s) (h : ∀ m fr s, Inv m fr s → AW LL P N rd c (SeqQ (fun fr' s' => ∃ m', m' < m ∧ Inv m' fr' s') Q) fr s) : AW LL P N rd (.loop c) Q fr s := by
  have key : ∀ m fr s, Inv m fr s → ∃ e fr' s' n, Q e fr' s' ∧ LoopTr LL P N rd c e fr' s' n fr s := by
    intro m
    induction m using Nat.strongRecOn with
    | _ m ih =>
      intro fr s hi
      obtain ⟨e, fr1, s1, hq, hr⟩ := h m fr s hi
      by_cases he : e = .normal
      · subst he
        obtain ⟨m', hlt, hi'⟩ := hq
        obtain ⟨e2, fr2, s2, n, q2, t2⟩ := ih m' hlt fr1 s1 hi'
        exact ⟨e2, fr2, s2, n + 1, q2, .more hr t2⟩
      · refine ⟨e, fr1, s1, 0, ?_, .last he hr⟩
        cases e with
        | normal => exact absurd rfl he
        | _ => exact hq
  obtain ⟨e, fr', s', n, hq, ht⟩ := key m fr s h0
  exact ⟨e, fr', s', hq, ht.runs⟩
end

/-! ### Calls -/

def Enters (P : Program) (f : FuncId) : Prop := ∀ (args : Array Value) (w : World), (callFunc f args).run P w = .ok (.enter f args) w

/-- A function called: from these arguments and own blocks it comes to that result and those own blocks. -/
structure FnRuns (LL : Nat → Code → CC → Prop) (P : Program) (f : FuncId) (xs : List AV) (s : List AObj) (d : AV) (s' : List AObj) : Prop where
  enters : Enters P f
  calls : ∀ (B : Nat) (k : Cfg) (w : World) (vs : List Value), St LL B k s w → RVs k w vs xs → Calls P f vs.toArray w fun e w' => ∃ v k', e = .returned v ∧ RA k' w' v d ∧ Ext B k w k' w' ∧ St LL B k' s' w'

/-- A round of an own loop. -/
def YldRuns (LL : Nat → Code → CC → Prop) (P : Program) (id : Nat) (xs : List AV) (s : List AObj) (d : AV) (s' : List AObj) : Prop :=
  ∀ (B : Nat) (k : Cfg) (w : World) (vs : List Value) (b : Nat), St LL B k s w → RVs k w vs xs → k.own[id]? = some (.blk b) →
    ∃ fn tmps assign body, (Instr.yield b vs.toArray).run P w = .ok (.round b fn tmps assign body) w ∧ RoundIn Fence.wide 0 P b fn tmps assign body w fun e w' => ∃ v k', e = .returned v ∧ RA k' w' v d ∧ Ext B k w k' w' ∧ St LL B k' s' w'

def CalRuns (LL : Nat → Code → CC → Prop) (P : Program) : AV → List AV → List AObj → AV → List AObj → Prop
  | .clo f fs cs, xs, s, d, s' => FnRuns LL P f (fs ++ xs ++ cs) s d s'
  | .yld id, xs, s, d, s' => YldRuns LL P id xs s d s'
  | _, _, _, _, _ => False

/-- A call that is still to be met. -/
def CallK (LL : Nat → Code → CC → Prop) (P : Program) (c : AV) (xs : List AV) (s : List AObj) (K : AV → List AObj → Prop) : Prop := ∃ d s', CalRuns LL P c xs s d s' ∧ K d s'
theorem CallK.mono {c : AV} {xs : List AV} {s : List AObj} {K K' : AV → List AObj → Prop} (h : CallK LL P c xs s K) (hk : ∀ d s, K d s → K' d s) : CallK LL P c xs s K' := let ⟨d, s', h1, h2⟩ := h; ⟨d, s', h1, hk _ _ h2⟩

theorem callsIn_FW {r : Option Nat} {f : FuncId} {args : Array Value} {w : World} {R : Ending → World → Prop} (h : Calls P f args w R) : CallsIn (FW r) 0 P f args w R := by
  cases r with
  | none => exact callsIn_wide.2 h
  | some l => exact callsIn_wide (n := 0).2 h
theorem roundIn_FW {r : Option Nat} {l : Nat} {f : FuncId} {tmps : Array Value} {assign body : Code} {w : World} {R : Ending → World → Prop} (h : RoundIn Fence.wide 0 P l f tmps assign body w R) : RoundIn (FW r) 0 P l f tmps assign body w R := by
  cases r with
  | none => exact h
  | some l => exact h

/-! ### A function's end -/

def closeAll (w : World) (ms : List Nat) : World := ms.foldl (fun w b => w.putObj b (.deferred none)) w
theorem closeAll_other {b : Nat} : ∀ (ms : List Nat) (w : World), b ∉ ms → (closeAll w ms).heap[b]? = w.heap[b]?
  | [], _, _ => rfl
  | m :: ms, w, h => by
    show (closeAll (w.putObj m (.deferred none)) ms).heap[b]? = _
    rw [closeAll_other ms _ (fun hh => h (by simp [hh])), World.putObj_heap_other (fun e => h (by simp [e]))]
theorem closeAll_size : ∀ (ms : List Nat) (w : World), (closeAll w ms).heap.size = w.heap.size ∧ (closeAll w ms).os = w.os ∧ (closeAll w ms).tape = w.tape ∧ (closeAll w ms).output = w.output
  | [], _ => ⟨rfl, rfl, rfl, rfl⟩
  | m :: ms, w => by
    obtain ⟨h1, h2, h3, h4⟩ := closeAll_size ms (w.putObj m (.deferred none))
    exact ⟨h1.trans World.putObj_size, h2, h3, h4⟩

theorem leaves_marks {fn : Func} {tmps : Array Value} {R : Ending → World → Prop} : ∀ (ms : List Nat) (w : World), ms.Nodup → (∀ b ∈ ms, w.heap[b]? = some (.deferred (some []))) →
    (∃ v, (results fn tmps).run P (closeAll w ms) = .ok v (closeAll w ms) ∧ R (.returned v) (closeAll w ms)) → LeavesInM Fence.wide 0 P fn tmps R (ms.map mark) .returning w
  | [], w, _, _, h => h
  | m :: ms, w, hnd, hm, h => by
    refine ⟨by simp, .inl ⟨m, w.putObj m (.deferred none), rfl, run_takeDeferred (hm m (by simp)), ?_⟩⟩
    refine leaves_marks ms _ (List.nodup_cons.1 hnd).2 (fun b hb => ?_) h
    rw [World.putObj_heap_other (fun e => by subst e; exact (List.nodup_cons.1 hnd).1 hb)]
    exact hm b (by simp [hb])

/-- Behind the marks all is as it was. -/
theorem close_ok {B : Nat} {k0 k : Cfg} {s : List AObj} {w0 w : World} {ms : List Nat} (hb : ∀ b ∈ ms, w0.heap.size ≤ b ∧ w.heap[b]? = some (.deferred (some [])) ∧ Unowned k b) (he : Ext B k0 w0 k w) (hs : St LL B k s w) (hB : B ≤ w0.heap.size) :
    Mono k w k (closeAll w ms) ∧ Ext B k0 w0 k (closeAll w ms) ∧ St LL B k s (closeAll w ms) := by
  obtain ⟨c1, c2, c3, c4⟩ := closeAll_size ms w
  have hcell : ∀ b o u, w.cell? ⟨b, o, none⟩ = some u → (closeAll w ms).cell? ⟨b, o, none⟩ = some u := fun b o u hc => by
    have hn : b ∉ ms := fun hm => by
      have := (hb b hm).2.1
      unfold World.cell? at hc
      rw [this] at hc; cases hc
    rw [World.cell?_of_block (w := w) (closeAll_other ms w hn)]; exact hc
  have hm : Mono k w k (closeAll w ms) := ⟨fun b o u h hc => ⟨h, hcell b o u hc⟩, fun _ o h => ⟨o, h, OwnLe.refl o⟩⟩
  have hlow : ∀ b, b < w0.heap.size → b ∉ ms := fun b hlt hmem => by have := (hb b hmem).1; omega
  refine ⟨hm, ⟨he.mono.trans hm, ⟨c2.trans he.below.os, c3.trans he.below.tape, c4.trans he.below.output, by rw [c1]; exact he.below.size, fun b hlt => ?_⟩, he.low, fun b hlt hu => ?_, he.fresh⟩, ?_⟩
  · rw [closeAll_other ms w (hlow b (by omega))]; exact he.below.block b hlt
  · rw [closeAll_other ms w (hlow b hlt)]; exact he.rest b hlt hu
  · refine hs.same hm (by rw [c1]; exact Nat.le_refl _) rfl fun b hu => ⟨closeAll_other ms w fun hmem => hu (hb b hmem).2.2, rfl⟩

/-- A function's contract out of its body's run. -/
theorem FnRuns.of {f : FuncId} {fn : Func} {c : Code} {xs : List AV} {s : List AObj} {d : AV} {s' : List AObj} {fr fr' : Fr} {e : Exit} (hfn : P.funcs[f]? = some fn) (hb : fn.body = some c) (hn : (fn.name == "runtime.NumGoroutine") = false) (he : e = .normal ∨ e = .ret)
    (hx : xs.length ≤ fn.ntmps) (hfr : ∀ (k : Cfg) (w : World) (vs : List Value), RVs k w vs xs → FR k w { tmps := vs.toArray ++ Array.replicate (fn.ntmps - vs.toArray.size) undef, defers := [] } fr)
    (hr : Runs LL P fn.ntmps none c fr s e fr' s')
    (hres : ∀ (B : Nat) (k : Cfg) (a : Act) (w : World), FR k w a fr' → St LL B k s' w → ∃ v, (results fn a.tmps).run P w = .ok v w ∧ RA k w v d) : FnRuns LL P f xs s d s' := by
  have hn' : fn.name ≠ "runtime.NumGoroutine" := by simpa using hn
  refine ⟨fun args w => by simp [callFunc, hfn, hn', hb, Go.mark], fun B k w vs hst hvs => ?_⟩
  rw [← callsIn_wide (n := 0)]
  refine callsIn_of_wp_marks hfn hb trivial ?_
  have hlen := hvs.1
  refine wpIn_mono (hr B k _ w none trivial (by simp; omega) (hfr k w vs hvs) hst) ?_
  rintro e' a' w' ⟨rfl, k', l1, ⟨ms, hms, hnd, hmk⟩, l3, l4, l5⟩
  obtain ⟨m1, m2, m3⟩ := close_ok hmk l3 l5 hst.base
  have hD : a'.defers = ms.map mark := by rw [hms]; simp
  have fin : LeavesInM Fence.wide 0 P fn a'.tmps (fun e w'' => ∃ v k'', e = .returned v ∧ RA k'' w'' v d ∧ Ext B k w k'' w'' ∧ St LL B k'' s' w'') a'.defers .returning w' := by
    rw [hD]
    refine leaves_marks ms w' hnd (fun b hb => (hmk b hb).2.1) ?_
    obtain ⟨v, hv1, hv2⟩ := hres B k' a' _ (l4.mono m1) m3
    exact ⟨v, hv1, v, k', rfl, hv2, m2, m3⟩
  rcases he with rfl | rfl
  · exact fin
  · exact fin
end
end Go.Bb

namespace Go.Bb
open Go Go.RowKit Go.Ab

def X.ev (fr : Fr) : X → Option AV
  | .t n => look fr n
  | .c x => some x
def evA (fr : Fr) : List X → Option (List AV)
  | [] => some []
  | x :: l => (x.ev fr).bind fun v => (evA fr l).map (v :: ·)

/-- Operators on scalars. -/
def binS : BinOp → Value → Value → Option Value
  | .add, .int k a, .int k' b => if k = k' then some (.int k (k.wrap (a + b))) else none
  | .sub, .int k a, .int k' b => if k = k' then some (.int k (k.wrap (a - b))) else none
  | .mul, .int k a, .int k' b => if k = k' then some (.int k (k.wrap (a * b))) else none
  | .eql, .int k a, .int k' b => if k = k' then some (.bool (a == b)) else none
  | .neq, .int k a, .int k' b => if k = k' then some (.bool (a != b)) else none
  | .lss, .int k a, .int k' b => if k = k' then some (.bool (decide (a < b))) else none
  | .leq, .int k a, .int k' b => if k = k' then some (.bool (decide (a ≤ b))) else none
  | .gtr, .int k a, .int k' b => if k = k' then some (.bool (decide (a > b))) else none
  | .geq, .int k a, .int k' b => if k = k' then some (.bool (decide (a ≥ b))) else none
  | .and, .int k a, .int k' b => if k = k' then some (.int k (k.wrap (BitVec.ofInt k.bits a &&& BitVec.ofInt k.bits b).toNat)) else none
  | .or, .int k a, .int k' b => if k = k' then some (.int k (k.wrap (BitVec.ofInt k.bits a ||| BitVec.ofInt k.bits b).toNat)) else none
  | .xor, .int k a, .int k' b => if k = k' then some (.int k (k.wrap (BitVec.ofInt k.bits a ^^^ BitVec.ofInt k.bits b).toNat)) else none
  | .andNot, .int k a, .int k' b => if k = k' then some (.int k (k.wrap (BitVec.ofInt k.bits a &&& ~~~BitVec.ofInt k.bits b).toNat)) else none
  | .quo, .int k a, .int k' b => if k = k' ∧ b ≠ 0 then some (.int k (k.wrap (a.tdiv b))) else none
  | .rem, .int k a, .int k' b => if k = k' ∧ b ≠ 0 then some (.int k (a.tmod b)) else none
  | .shl, .int k a, .int _ b => if 0 ≤ b then some (.int k (k.wrap (a * 2 ^ min b.toNat k.bits))) else none
  | .shr, .int k a, .int _ b => if 0 ≤ b then some (.int k (a.fdiv (2 ^ min b.toNat k.bits))) else none
  | .eql, .string a, .string b => some (.bool (a.toList == b.toList))
  | .lss, .string a, .string b => some (.bool (Op.bytesLess a.toList b.toList))
  | .leq, .string a, .string b => some (.bool (Op.bytesLess a.toList b.toList || a.toList == b.toList))
  | .gtr, .string a, .string b => some (.bool !(Op.bytesLess a.toList b.toList || a.toList == b.toList))
  | .geq, .string a, .string b => some (.bool !(Op.bytesLess a.toList b.toList))
  | .neq, .string a, .string b => some (.bool !(a.toList == b.toList))
  | .add, .string a, .string b => if ((a.size + b.size : Nat) : Int) ≤ 9223372036854775807 then some (.string (a ++ b)) else none
  | _, _, _ => none

/-- Equality of cells. -/
def eqKs : List SK → List Value → List Value → Option Bool
  | [], [], [] => some true
  | .i :: ks, .int k a :: us, .int k' b :: vs => if k = k' then (eqKs ks us vs).map ((a == b) && ·) else none
  | .s :: ks, .string a :: us, .string b :: vs => (eqKs ks us vs).map ((a.toList == b.toList) && ·)
  | .b :: ks, .bool a :: us, .bool b :: vs => (eqKs ks us vs).map ((a == b) && ·)
  | _, _, _ => none

def scsA : List AV → Option (List Value)
  | [] => some []
  | .d (.sc v) :: cs => (scsA cs).map (v :: ·)
  | _ => none
def AV.sc? : AV → Option Value
  | .d (.sc v) => some v
  | _ => none
/-- The cells of what is compared: a struct's or an array's; one. -/
def AV.key (ag : Bool) (x : AV) : Option (List Value) := if ag then x.row.bind scsA else x.sc?.bind fun u => if u.oneCell' then some [u] else none
def AV.keyK (ag : Bool) (ks : List SK) (x : AV) : Option (List Value) := (x.key ag).bind fun us => if us.length = ks.length then some us else none
def AV.bool? : AV → Option Bool
  | .d (.sc (.bool b)) => some b
  | _ => none
def AV.int? : AV → Option Int
  | .d (.sc (.int .i64 n)) => some n
  | _ => none
def AV.num? : AV → Option Int
  | .d (.sc (.int _ n)) => some n
  | _ => none
def AV.str? : AV → Option ByteArray
  | .d (.sc (.string b)) => some b
  | _ => none
def slA (sz : Nat) : AV → Option (List (List D))
  | .d (.sl s rows) => if s = sz then some rows else none
  | .tsl _ s rows => if s = sz then some rows else none
  | .nil s => if s = sz then some [] else none
  | .emp s => if s = sz then some [] else none
  | _ => none

/-- A bound of a slice expression. -/
def boundA (fr : Fr) (dft : Nat) : Option X → Option Int
  | none => some dft
  | some x => (x.ev fr).bind AV.int?

/-- A struct's cells, parts of them given. -/
def fillA (fr : Fr) : List AV → List (Nat × Nat × X) → Option (List AV)
  | cs, [] => some cs
  | cs, (off, size, x) :: ps => ((x.ev fr).bind AV.cells).bind fun vs => if vs.length = size ∧ off + size ≤ cs.length then fillA fr (cs.take off ++ vs ++ cs.drop (off + size)) ps else none

/-- The own block that a slot leads to. -/
def AV.hdl : AV → Option Nat
  | .ptr id _ => some id
  | .vec id _ _ => some id
  | .vptr id _ _ => some id
  | .win id _ _ _ => some id
  | .vwn id _ _ _ _ => some id
  | .mp id => some id
  | _ => none
def objOf (s : List AObj) (v : AV) : Option AObj := v.hdl.bind (s[·]?)

def cellsO : Option AObj → Option (List AV)
  | some (.cells cs) => some cs
  | _ => none
def vecO (n : Nat) : Option AObj → Option (Nat × List AV)
  | some (.vec _ sz ds) => if 0 < sz ∧ ds.length = n * sz then some (sz, ds) else none
  | _ => none
def mapO' (ag : Bool) : Option AObj → Option (List (List Value × AV))
  | some (.map ag' es) => if ag' = ag then some es else none
  | _ => none
def mapN : Option AObj → Option Int
  | some (.map _ es) => some es.length
  | _ => none

def pickM (ds : List AV) (off : Nat) : Option Nat → Option AV
  | none => ds[off]?
  | some m => if off + m ≤ ds.length then some (.agg ((ds.drop off).take m)) else none
def pickD (ds : List D) (off : Nat) : Option Nat → Option AV
  | none => (ds[off]?).map .d
  | some m => if off + m ≤ ds.length then some (.d (.agg ((ds.drop off).take m))) else none

/-- A load. -/
def rdLd (o : Option AObj) (n : Option Nat) : AV → Option AV
  | .d (.ref ds) => pickD ds 0 n
  | .ptr _ off => (cellsO o).bind fun cs => pickM cs off n
  | .vptr _ m off => (vecO m o).bind fun p => pickM p.2 off n
  | _ => none
def rdFad (off : Nat) : AV → Option AV
  | .d (.ref ds) => some (.d (.ref (ds.drop off)))
  | .ptr id o => some (.ptr id (o + off))
  | .vptr id n o => some (.vptr id n (o + off))
  | _ => none
/-- The address of an element of a slice. -/
def rdIad (o : Option AObj) (sz : Nat) (i : Int) : AV → Option AV
  | .vec id m sz' => (vecO m o).bind fun p => if sz' = sz ∧ p.1 = sz ∧ 0 ≤ i ∧ i.toNat < m then some (.vptr id m (i.toNat * sz)) else none
  | .win id off n sz' => if sz' = sz ∧ 0 ≤ i ∧ i.toNat < n then some (.ptr id (off + i.toNat * sz)) else none
  | .vwn id N off n sz' => (vecO N o).bind fun p => if sz' = sz ∧ p.1 = sz ∧ 0 ≤ i ∧ i.toNat < n ∧ off + n ≤ N then some (.vptr id N ((off + i.toNat) * sz)) else none
  | v => (slA sz v).bind fun rows => if 0 ≤ i then (rows[i.toNat]?).map fun r => .d (.ref r) else none
/-- The address of an element of an array. -/
def rdIap (n sz : Nat) (j : Int) : AV → Option AV
  | .d (.ref ds) => if 0 ≤ j ∧ j < n then some (.d (.ref (ds.drop (j.toNat * sz)))) else none
  | .ptr id o => if 0 ≤ j ∧ j < n then some (.ptr id (o + j.toNat * sz)) else none
  | .vptr id m o => if 0 ≤ j ∧ j < n then some (.vptr id m (o + j.toNat * sz)) else none
  | _ => none
def rdFld (off : Nat) (n : Option Nat) (v : AV) : Option AV := v.row.bind fun cs => pickM cs off n
/-- An element of an array. -/
def rdIdx (len sz : Nat) (n : Option Nat) (j : Int) (v : AV) : Option AV := if 0 ≤ j ∧ j < len then v.row.bind fun cs => pickM cs (j.toNat * sz) n else none
def rdExt (i : Nat) : AV → Option AV
  | .d (.tup ds) => (ds[i]?).map .d
  | .tup cs => cs[i]?
  | _ => none
def rdLen (o : Option AObj) : Nat → AV → Option Int
  | 0, .d (.sl _ rows) => some rows.length
  | 0, .tsl _ _ rows => some rows.length
  | 0, .nil _ => some 0
  | 0, .emp _ => some 0
  | 0, .vec _ n _ => some n
  | 0, .win _ _ n _ => some n
  | 0, .vwn _ _ _ n _ => some n
  | 1, .d (.sc (.string b)) => some b.size
  | 2, .mp _ => mapN o
  | 2, .d (.sc (.map none)) => some 0
  | _, _ => none
def boolD (b : Bool) : AV := .d (.sc (.bool b))
def intD (n : Int) : AV := .d (.sc (.int .i64 n))
/-- Is it the slice nil? -/
def rdIsn : AV → Option Bool
  | .nil _ => some true
  | .win _ _ _ _ => some false
  | .d (.sl _ (_ :: _)) => some false
  | .tsl _ _ (_ :: _) => some false
  | _ => none
def unS : UnOp → Value → Option Value
  | .neg, .int k a => some (.int k (k.wrap (-a)))
  | .xor, .int k a => some (.int k (k.wrap (BitVec.ofInt k.bits (if k.signed then -1 else k.max) ^^^ BitVec.ofInt k.bits a).toNat))
  | _, _ => none
def mmS (mx : Bool) : Value → Value → Option Value
  | .int k a, .int k' b => if k = k' then some (.int k (if (if mx then b > a else b < a) then b else a)) else none
  | _, _ => none
def rdSlc (o : Option AObj) (sz : Nat) (l : Int) (h : Option Int) : AV → Option AV
  | .vec id n sz' => (vecO n o).bind fun p => if (sz' = sz ∧ p.1 = sz ∧ l < n) ∧ 0 ≤ l ∧ l ≤ h.getD n ∧ h.getD n ≤ n then some (.vwn id n l.toNat ((h.getD n).toNat - l.toNat) sz) else none
  | .vwn id N off n sz' => (vecO N o).bind fun p => if (sz' = sz ∧ p.1 = sz ∧ l < n) ∧ 0 ≤ l ∧ l ≤ h.getD n ∧ h.getD n ≤ n then some (.vwn id N (off + l.toNat) ((h.getD n).toNat - l.toNat) sz) else none
  | .win id off n sz' => if (sz' = sz ∧ l < n) ∧ 0 ≤ l ∧ l ≤ h.getD n ∧ h.getD n ≤ n then some (.win id (off + l.toNat * sz) ((h.getD n).toNat - l.toNat) sz) else none
  | v => (slA sz v).bind fun rows => if 0 ≤ l ∧ l ≤ h.getD rows.length ∧ h.getD rows.length ≤ rows.length then some (.d (.sl sz ((rows.take (h.getD rows.length).toNat).drop l.toNat))) else none
def chunk {α : Type} (sz : Nat) : Nat → List α → List (List α)
  | 0, _ => []
  | n + 1, l => l.take sz :: chunk sz n (l.drop sz)
def rdSla (n sz : Nat) (l : Int) (h : Option Int) : AV → Option AV
  | .ptr id off => if l < n ∧ 0 ≤ l ∧ l ≤ h.getD n ∧ h.getD n ≤ n then some (.win id (off + l.toNat * sz) ((h.getD n).toNat - l.toNat) sz) else none
  | .d (.ref ds) => if (l < n ∧ 0 ≤ l ∧ l ≤ h.getD n ∧ h.getD n ≤ n) ∧ n * sz ≤ ds.length then some (.d (.sl sz (chunk sz ((h.getD n).toNat - l.toNat) ((ds.drop (l.toNat * sz)).take (((h.getD n).toNat - l.toNat) * sz))))) else none
  | _ => none
def rdSls (b : ByteArray) (l : Int) (h : Option Int) : Option AV := if 0 ≤ l ∧ l ≤ h.getD b.size ∧ h.getD b.size ≤ b.size then some (.d (.sc (.string (b.extract l.toNat (h.getD b.size).toNat)))) else none
def rdSix (b : ByteArray) (i : Int) : Option AV := if 0 ≤ i then (b[i.toNat]?).map fun x => .d (.sc (.int .u8 x.toNat)) else none
def boundO (fr : Fr) : Option X → Option (Option Int)
  | none => some none
  | some x => ((x.ev fr).bind AV.int?).map some
def bytesRow (b : ByteArray) : List (List D) := b.data.toList.map fun x => [.sc (.int .u8 x.toNat)]
def rdS2b (b : ByteArray) : Option AV := if b.size ≤ 140737488355328 then some (.d (.sl 1 (bytesRow b))) else none
def byteV : AV → Option UInt8
  | .d (.sc (.int .u8 n)) => if 0 ≤ n ∧ n < 256 then some (UInt8.ofNat n.toNat) else none
  | _ => none
def bytesOfA : List AV → Option (List UInt8)
  | [] => some []
  | x :: l => (byteV x).bind fun b => (bytesOfA l).map (b :: ·)
def rdB2s (o : Option AObj) : AV → Option ByteArray
  | .win _ off n sz => if sz = 1 then (cellsO o).bind fun cs => if off + n ≤ cs.length then (bytesOfA ((cs.drop off).take n)).map fun l => ⟨l.toArray⟩ else none else none
  | .vec _ n sz => if sz = 1 then (vecO n o).bind fun p => if p.1 = 1 then (bytesOfA p.2).map fun l => ⟨l.toArray⟩ else none else none
  | v => (slA 1 v).bind fun rows => (bytesOfA (rows.flatten.map .d)).map fun l => ⟨l.toArray⟩
/-- A key among a map's. -/
def findE (ks : List SK) (key : List Value) : List (List Value × AV) → Nat → Option (Option (Nat × AV))
  | [], _ => some none
  | e :: es, i => (eqKs ks key e.1).bind fun b => if b = true then some (some (i, e.2)) else findE ks key es (i + 1)
def rdLkp (ag : Bool) (ks : List SK) (o : Option AObj) (z : AV) (ok : Bool) (key : List Value) : AV → Option AV
  | .mp _ => (mapO' ag o).bind fun es => (findE ks key es 0).map fun r => if ok then .tup [(r.map (·.2)).getD z, boolD r.isSome] else (r.map (·.2)).getD z
  | .d (.sc (.map none)) => some (if ok then .tup [z, boolD false] else z)
  | _ => none

def ret (s : List AObj) (o : Option AV) : Option (AV × List AObj) := o.map fun d => (d, s)
def undefA' : AV := .d (.sc undef)

/-- What is appended: so many elements, these cells. -/
def srcA (s : List AObj) (sz : Nat) : AV → Option (Nat × List AV)
  | .vec id n sz' => (vecO n (s[id]?)).bind fun p => if sz' = sz ∧ p.1 = sz then some (n, p.2) else none
  | .vwn id N off n sz' => (vecO N (s[id]?)).bind fun p => if sz' = sz ∧ p.1 = sz ∧ off + n ≤ N then some (n, (p.2.drop (off * sz)).take (n * sz)) else none
  | .win id off n sz' => (cellsO (s[id]?)).bind fun cs => if sz' = sz ∧ off + n * sz ≤ cs.length then some (n, (cs.drop off).take (n * sz)) else none
  | v => (slA sz v).map fun rows => (rows.length, rows.flatten.map .d)

def putCells (s : List AObj) (id off m : Nat) (vs cs : List AV) : Option (AV × List AObj) := if vs.length = m ∧ off + m ≤ cs.length then some (undefA', s.set id (.cells (cs.take off ++ vs ++ cs.drop (off + m)))) else none
def putVec (s : List AObj) (id off m e sz : Nat) (vs ds : List AV) : Option (AV × List AObj) := if vs.length = m ∧ off + m ≤ ds.length then some (undefA', s.set id (.vec e sz (ds.take off ++ vs ++ ds.drop (off + m)))) else none
def eOf : Option AObj → Nat
  | some (.vec e _ _) => e
  | _ => 0
def semSt (s : List AObj) (m : Nat) (vs : List AV) : AV → Option (AV × List AObj)
  | .ptr id off => (cellsO (s[id]?)).bind fun cs => putCells s id off m vs cs
  | .vptr id n off => (vecO n (s[id]?)).bind fun p => putVec s id off m (eOf s[id]?) p.1 vs p.2
  | _ => none
def rowOk (e sz n : Nat) : Option AObj → Bool
  | some (.row e' sz2 n2) => decide (e' = e ∧ sz2 = sz ∧ n2 = n)
  | _ => false
def roomOk (n bytes : Nat) : Bool := decide (n * bytes ≤ 140737488355328 ∧ n ≤ 9223372036854775807)
def semApp (s : List AObj) (mu : Bool) (e sz bytes : Nat) (y : AV) : AV → Option (AV × List AObj)
  | .vec id n sz' => (srcA s sz y).bind fun us => (vecO n (s[id]?)).bind fun p => if (sz' = sz ∧ p.1 = sz ∧ eOf s[id]? = e ∧ us.2.length = us.1 * sz) ∧ roomOk (n + us.1) bytes = true then
      some (.vec id (n + us.1) sz, s.set id (.vec e sz (p.2 ++ us.2))) else none
  | .nil sz' => if (mu || (slA sz y).isNone) = true then (srcA s sz y).bind fun us => if (sz' = sz ∧ 0 < us.1 ∧ us.2.length = us.1 * sz) ∧ roomOk us.1 bytes = true then some (.vec s.length us.1 sz, s ++ [.vec e sz us.2]) else none else (slA sz y).bind fun news => if news = [] then some (.nil sz', s) else if sz' = sz ∧ roomOk news.length bytes = true then some (.tsl s.length sz news, s ++ [.row e sz news.length]) else none
  | .emp sz' => if (mu || (slA sz y).isNone) = true then (srcA s sz y).bind fun us => if (sz' = sz ∧ 0 < us.1 ∧ us.2.length = us.1 * sz) ∧ roomOk us.1 bytes = true then some (.vec s.length us.1 sz, s ++ [.vec e sz us.2]) else none else (slA sz y).bind fun news => if news = [] then some (.emp sz', s) else if sz' = sz ∧ roomOk news.length bytes = true then some (.tsl s.length sz news, s ++ [.row e sz news.length]) else none
  | .tsl id sz' rows => (slA sz y).bind fun news => if (sz' = sz ∧ rowOk e sz rows.length s[id]? = true) ∧ roomOk (rows.length + news.length) bytes = true then
      some (.tsl id sz (rows ++ news), s.set id (.row e sz (rows.length + news.length))) else none
  | .vwn id N off m sz' => (srcA s sz y).bind fun us => (vecO N (s[id]?)).bind fun p => if ((sz' = sz ∧ p.1 = sz ∧ eOf s[id]? = e ∧ us.2.length = us.1 * sz) ∧ off = 0 ∧ m ≤ N) ∧ roomOk (m + us.1) bytes = true then
      some (if m + us.1 ≤ N then (.vwn id N 0 (m + us.1) sz, s.set id (.vec e sz (p.2.take (m * sz) ++ us.2 ++ p.2.drop (m * sz + us.1 * sz)))) else (.vec id (m + us.1) sz, s.set id (.vec e sz (p.2.take (m * sz) ++ us.2)))) else none
  | _ => none
def semBsl (s : List AObj) (mu : Bool) (e sz n : Nat) (cs : List AV) : Option (AV × List AObj) :=
  if cs.length = n * sz ∧ n ≤ 9223372036854775807 then
    if (mu || (toLs cs).isNone) = true then some (.vec s.length n sz, s ++ [.vec e sz cs]) else (toLs cs).map fun ds => (.tsl s.length sz (chunk sz n ds), s ++ [.row e sz n])
  else none
def rdBsf (sz n : Nat) (cs : List AV) : Option AV := if cs.length = n * sz ∧ n ≤ 9223372036854775807 then (toLs cs).map fun ds => .d (.sl sz (chunk sz n ds)) else none
def semMks (s : List AObj) (mu : Bool) (e bytes : Nat) (z : AV) (n m : Int) : Option (AV × List AObj) :=
  if 0 ≤ n ∧ n ≤ m ∧ m * bytes ≤ 140737488355328 ∧ m ≤ 140737488355328 then
    if mu then some (.vec s.length n.toNat 1, s ++ [.vec e 1 (List.replicate n.toNat z)]) else z.toL.map fun d => (.tsl s.length 1 (List.replicate n.toNat [d]), s ++ [.row e 1 n.toNat])
  else none
/-- A map's entry laid. -/
def setE (es : List (List Value × AV)) (key : List Value) (v : AV) : Option (Nat × AV) → List (List Value × AV)
  | some (i, _) => es.set i (key, v)
  | none => es ++ [(key, v)]
def semMup (ag : Bool) (ks : List SK) (s : List AObj) (key : List Value) (v : AV) : AV → Option (AV × List AObj)
  | .mp id => (mapO' ag (s[id]?)).bind fun es => (findE ks key es 0).map fun r => (undefA', s.set id (.map ag (setE es key v r)))
  | _ => none
def semMen (ag : Bool) (ks : List SK) (s : List AObj) (key : List Value) (z : AV) : AV → Option (AV × List AObj)
  | .mp id => (mapO' ag (s[id]?)).bind fun es => (findE ks key es 0).map fun r => match r with
    | some (i, v) => (.tup [v, intD i], s.set id (.map ag (es.set i (key, v))))
    | none => (.tup [z, intD es.length], s.set id (.map ag (es ++ [(key, z)])))
  | _ => none
def mapP : Option AObj → Option (Bool × List (List Value × AV))
  | some (.map ag es) => some (ag, es)
  | _ => none
def semMst (s : List AObj) (i : Int) (v : AV) : AV → Option (AV × List AObj)
  | .mp id => (mapP (s[id]?)).bind fun p => if 0 ≤ i then (p.2[i.toNat]?).map fun e => (undefA', s.set id (.map p.1 (p.2.set i.toNat (e.1, v)))) else none
  | _ => none

def semS2o (s : List AObj) (e : Nat) (b : ByteArray) : Option (AV × List AObj) := if b.size ≤ 140737488355328 then some (.tsl s.length 1 (bytesRow b), s ++ [.row e 1 b.size]) else none
/-- Elements set to zero. -/
def semClr (s : List AObj) (sz : Nat) (z : List AV) : AV → Option (AV × List AObj)
  | .vwn id N off n sz' => (vecO N (s[id]?)).bind fun p => if (sz' = sz ∧ p.1 = sz ∧ z.length = sz) ∧ 0 < n ∧ off + n ≤ N then some (.d (.sc (.tuple #[])), s.set id (.vec (eOf s[id]?) sz (p.2.take (off * sz) ++ (List.replicate n z).flatten ++ p.2.drop (off * sz + n * sz)))) else none
  | _ => none

def CI.sem (fr : Fr) (s : List AObj) : CI → Option (AV × List AObj)
  | .mov x => ret s (x.ev fr)
  | .pick c a b => ret s (((c.ev fr).bind AV.bool?).bind fun v => (if v then a else b).ev fr)
  | .ld n x => ret s ((x.ev fr).bind fun v => rdLd (objOf s v) n v)
  | .st m x v => (x.ev fr).bind fun p => ((v.ev fr).bind AV.cells).bind fun vs => semSt s m vs p
  | .fad off x => ret s ((x.ev fr).bind (rdFad off))
  | .iad sz x i => ret s (((i.ev fr).bind AV.num?).bind fun j => (x.ev fr).bind fun v => rdIad (objOf s v) sz j v)
  | .iap n sz x i => ret s (((i.ev fr).bind AV.num?).bind fun j => (x.ev fr).bind fun v => rdIap n sz j v)
  | .fld off n x => ret s ((x.ev fr).bind (rdFld off n))
  | .idx ln sz n x i => ret s (((i.ev fr).bind AV.num?).bind fun j => (x.ev fr).bind fun v => rdIdx ln sz n j v)
  | .ext x i => ret s ((x.ev fr).bind (rdExt i))
  | .bin op x y => ret s (((x.ev fr).bind AV.sc?).bind fun u => ((y.ev fr).bind AV.sc?).bind fun v => (binS op u v).map fun r => .d (.sc r))
  | .eqa ag ks neg x y => ret s (((x.ev fr).bind (AV.key ag)).bind fun us => ((y.ev fr).bind (AV.key ag)).bind fun vs => (eqKs ks us vs).map fun b => boolD (neg != b))
  | .isn neg x => ret s (((x.ev fr).bind rdIsn).map fun b => boolD (neg != b))
  | .not x => ret s (((x.ev fr).bind AV.bool?).map fun b => boolD !b)
  | .mm mx x y => ret s (((x.ev fr).bind AV.sc?).bind fun u => ((y.ev fr).bind AV.sc?).bind fun v => (mmS mx u v).map fun r => .d (.sc r))
  | .bad => none
  | .un op x => ret s (((x.ev fr).bind AV.sc?).bind fun u => (unS op u).map fun r => .d (.sc r))
  | .len kd x => ret s ((x.ev fr).bind fun v => (rdLen (objOf s v) kd v).map intD)
  | .slc sz x lo hi => ret s ((x.ev fr).bind fun v => (boundA fr 0 lo).bind fun l => (boundO fr hi).bind fun h => rdSlc (objOf s v) sz l h v)
  | .slz sz x => ret s ((x.ev fr).bind fun v => (slA sz v).map fun _ => .emp sz)
  | .sla n sz x lo hi => ret s ((x.ev fr).bind fun v => (boundA fr 0 lo).bind fun l => (boundO fr hi).bind fun h => rdSla n sz l h v)
  | .sls x lo hi => ret s (((x.ev fr).bind AV.str?).bind fun b => (boundA fr 0 lo).bind fun l => (boundO fr hi).bind fun h => rdSls b l h)
  | .six x i => ret s (((x.ev fr).bind AV.str?).bind fun b => ((i.ev fr).bind AV.num?).bind fun j => rdSix b j)
  | .app mu e sz bytes x y => (x.ev fr).bind fun v => (y.ev fr).bind fun u => semApp s mu e sz bytes u v
  | .bld z ps => ret s ((fillA fr z ps).map .agg)
  | .bsl mu e sz n z ps => (fillA fr z ps).bind fun cs => semBsl s mu e sz n cs
  | .bsf sz n z ps => ret s ((fillA fr z ps).bind (rdBsf sz n))
  | .mks mu e bytes z l c => ((l.ev fr).bind AV.int?).bind fun n => ((c.ev fr).bind AV.int?).bind fun m => semMks s mu e bytes z n m
  | .cnv k x => ret s (((x.ev fr).bind AV.sc?).bind fun u => match u with
    | .int _ n => some (.d (.sc (.int k (k.wrap n))))
    | _ => none)
  | .s2b x => ret s (((x.ev fr).bind AV.str?).bind rdS2b)
  | .s2o e x => ((x.ev fr).bind AV.str?).bind (semS2o s e)
  | .b2s x => ret s ((x.ev fr).bind fun v => (rdB2s (objOf s v) v).map fun b => .d (.sc (.string b)))
  | .nck x => ret s ((x.ev fr).bind (rdFad 0))
  | .box x => ((x.ev fr).bind AV.cells).map fun cs => (.ptr s.length 0, s ++ [.cells cs])
  | .bxt t x => ((x.ev fr).bind AV.cells).map fun cs => (.ptr s.length 0, s ++ [.tcells t cs])
  | .clr sz z x => (x.ev fr).bind (semClr s sz z)
  | .bxf x => ret s (((x.ev fr).bind AV.cells).bind fun cs => (toLs cs).map fun ds => .d (.ref ds))
  | .mkf f xs ys => ret s ((evA fr xs).bind fun us => (evA fr ys).map fun vs => .clo f us vs)
  | .mkm ag => some (.mp s.length, s ++ [.map ag []])
  | .lkp ag ks z ok m k => ret s (((k.ev fr).bind (AV.keyK ag ks)).bind fun key => (m.ev fr).bind fun v => rdLkp ag ks (objOf s v) z ok key v)
  | .mup ag ks m k v => ((k.ev fr).bind (AV.keyK ag ks)).bind fun key => (v.ev fr).bind fun u => (m.ev fr).bind fun p => semMup ag ks s key u p
  | .men ag ks z m k => ((k.ev fr).bind (AV.keyK ag ks)).bind fun key => (m.ev fr).bind fun p => semMen ag ks s key z p
  | .mst m i v => ((i.ev fr).bind AV.int?).bind fun j => (v.ev fr).bind fun u => (m.ev fr).bind fun p => semMst s j u p
  | .call _ _ => none

def AV.vecId : AV → Option Nat
  | .vec id _ _ => some id
  | .vwn id _ _ _ _ => some id
  | _ => none
/-- The own block that an instruction reads. -/
def CI.use (fr : Fr) : CI → Option Nat
  | .ld _ x => (x.ev fr).bind AV.hdl
  | .iad _ x _ => (x.ev fr).bind AV.vecId
  | .slc _ x _ _ => (x.ev fr).bind AV.vecId
  | .len kd x => if kd = 2 then (x.ev fr).bind AV.hdl else none
  | .b2s x => (x.ev fr).bind AV.hdl
  | .lkp _ _ _ _ m _ => (m.ev fr).bind AV.hdl
  | _ => none
/-- An append writes, or makes a block where there was no row. -/
def appT : Option AV → Nat
  | some (.nil _) => 3
  | some (.emp _) => 3
  | _ => 2
theorem appT_ge (o : Option AV) : 2 ≤ appT o := by unfold appT; split <;> decide
theorem appT_le (o : Option AV) : appT o ≤ 3 := by unfold appT; split <;> decide
/-- What an instruction touches of the own blocks: 0 nothing, 1 it reads, 2 it writes, 3 it makes one. -/
def CI.touch (fr : Fr) : CI → Nat
  | .st .. | .mup .. | .men .. | .mst .. | .clr .. => 2
  | .app _ _ _ _ x _ => appT (x.ev fr)
  | .box .. | .bsl .. | .mks .. | .mkm _ | .s2o .. | .bxt .. => 3
  | .ld n x => if (CI.use fr (.ld n x)).isSome then 1 else 0
  | .iad sz x i => if (CI.use fr (.iad sz x i)).isSome then 1 else 0
  | .slc sz x lo hi => if (CI.use fr (.slc sz x lo hi)).isSome then 1 else 0
  | .len kd x => if (CI.use fr (.len kd x)).isSome then 1 else 0
  | .b2s x => if (CI.use fr (.b2s x)).isSome then 1 else 0
  | .lkp ag ks z ok m k => if (CI.use fr (.lkp ag ks z ok m k)).isSome then 1 else 0
  | _ => 0
def AV.rowId : AV → Option Nat
  | .vwn id _ _ _ _ => some id
  | .vec id _ _ => some id
  | .tsl id _ _ => some id
  | _ => none
/-- The own block that an instruction writes. -/
def CI.wr (fr : Fr) : CI → Option Nat
  | .st _ x _ => (x.ev fr).bind AV.hdl
  | .clr _ _ x => (x.ev fr).bind AV.vecId
  | .app _ _ _ _ x _ => (x.ev fr).bind AV.rowId
  | .mup _ _ m _ _ => (m.ev fr).bind AV.hdl
  | .men _ _ _ m _ => (m.ev fr).bind AV.hdl
  | .mst m _ _ => (m.ev fr).bind AV.hdl
  | _ => none
def markOf (t : Nat) (u w : Option Nat) : Nat := if t = 1 then (u.map (4 + 2 * ·)).getD 1 else if t = 2 then (w.map (5 + 2 * ·)).getD 2 else t
/-- What it touches, told as Bb4 has it. -/
def CI.mark (fr : Fr) (ci : CI) : Nat := markOf (ci.touch fr) (ci.use fr) (ci.wr fr)
end Go.Bb
