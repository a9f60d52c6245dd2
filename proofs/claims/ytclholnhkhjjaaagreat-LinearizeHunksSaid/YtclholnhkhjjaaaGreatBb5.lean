/-
  Part Bb5 of this claim's proof. Joined by merge.py from the texts of wip/tpl.
-/
import Derived.Test.YtclholnhkhjjaaaGreatBb4
import Derived.Sort.LoopGhostIn
set_option linter.unusedVariables false
set_option linter.unusedSimpArgs false
set_option linter.unnecessarySimpa false
namespace Go.Bb
open Go Go.RowKit Go.Ab
def RdOk (k : Cfg) : Option Nat → Option Nat → Prop
 | none, none => True
 | some id, some l => k.own[id]? = some (.blk l)
 | _, _ => False
theorem RdOk.mono {k k' : Cfg} {w w' : World} (hm : Mono k w k' w') : ∀ {rd r : Option Nat}, RdOk k rd r → RdOk k' rd r
 | none, none, _ => trivial
 | some _, some _, h => OwnLe.blk' hm h
 | none, some _, h => h.elim
 | some _, none, h => h.elim
def mark (b : Nat) : Deferred := { target := .collected b, args := #[] }
def Marks (w w' : World) (k' : Cfg) (D D' : List Deferred) : Prop :=
 ∃ ms : List Nat, D' = ms.map mark ++ D ∧ ms.Nodup ∧ ∀ b ∈ ms, w.heap.size ≤ b ∧ w'.heap[b]? = some (.deferred (some [])) ∧ Unowned k' b
theorem Marks.refl (w w' : World) (k' : Cfg) (D : List Deferred) : Marks w w' k' D D := ⟨[], rfl, List.nodup_nil, fun _ h => by cases h⟩
theorem Marks.same {w w' : World} {k' : Cfg} {D D' : List Deferred} (h : D' = D) : Marks w w' k' D D' := by subst h; exact Marks.refl _ _ _ _
theorem heap_lt {w : World} {b : Nat} {o : Obj} (h : w.heap[b]? = some o) : b < w.heap.size := (Array.getElem?_eq_some_iff.1 h).1
theorem Marks.trans {B : Nat} {w w' w'' : World} {k' k'' : Cfg} {D D' D'' : List Deferred} (h : Marks w w' k' D D') (hs : w.heap.size ≤ w'.heap.size) (he : Ext B k' w' k'' w'') (g : Marks w' w'' k'' D' D'') : Marks w w'' k'' D D'' := by
 obtain ⟨ms, rfl, h2, h3⟩ := h
 obtain ⟨ns, rfl, g2, g3⟩ := g
 refine ⟨ns ++ ms, by simp, List.nodup_append.2 ⟨g2, h2, fun b hb c hc e => ?_⟩, fun b hb => ?_⟩
 · subst e
   have := (g3 b hb).1
   have := heap_lt (h3 b hc).2.1
   omega
 · rcases List.mem_append.1 hb with hb | hb
   · obtain ⟨l1, l2, l3⟩ := g3 b hb; exact ⟨Nat.le_trans hs l1, l2, l3⟩
   · obtain ⟨l1, l2, l3⟩ := h3 b hb
     have hlt := heap_lt l2
     exact ⟨l1, (he.rest b hlt l3).trans l2, he.unowned hlt l3⟩
section
variable {LL : Nat → Code → CC → Prop} {P : Program} {N : Nat} {rd : Option Nat}
def Ends (LL : Nat → Code → CC → Prop) (N B : Nat) (k : Cfg) (D : List Deferred) (w : World) (e : Exit) (fr : Fr) (s : List AObj) (e' : Exit) (a' : Act) (w' : World) : Prop :=
 e' = e ∧ ∃ k', a'.tmps.size = N ∧ Marks w w' k' D a'.defers ∧ Ext B k w k' w' ∧ FR k' w' a' fr ∧ St LL B k' s w'
def Runs (LL : Nat → Code → CC → Prop) (P : Program) (N : Nat) (rd : Option Nat) (c : Code) (fr : Fr) (s : List AObj) (e : Exit) (fr' : Fr) (s' : List AObj) : Prop :=
 ∀ (B : Nat) (k : Cfg) (a : Act) (w : World) (r : Option Nat), RdOk k rd r → a.tmps.size = N → FR k w a fr → St LL B k s w → c.wpIn (FW r) 0 P (Ends LL N B k a.defers w e fr' s') a w
def AW (LL : Nat → Code → CC → Prop) (P : Program) (N : Nat) (rd : Option Nat) (c : Code) (Q : Exit → Fr → List AObj → Prop) (fr : Fr) (s : List AObj) : Prop :=
 ∃ e fr' s', Q e fr' s' ∧ Runs LL P N rd c fr s e fr' s'
theorem Ends.trans {B : Nat} {k k' : Cfg} {D D' : List Deferred} {w w' : World} {e : Exit} {fr : Fr} {s : List AObj} {e2 : Exit} {a2 : Act} {w2 : World} (hm : Marks w w' k' D D') (he : Ext B k w k' w') (h : Ends LL N B k' D' w' e fr s e2 a2 w2) : Ends LL N B k D w e fr s e2 a2 w2 := by
 obtain ⟨h0, k2, h1, h2, h3, h4, h5⟩ := h
 exact ⟨h0, k2, h1, hm.trans he.below.size h3 h2, he.trans h3, h4, h5⟩
theorem Runs.frame {c : Code} {fr fr0 : Fr} {s : List AObj} {e : Exit} {fr' : Fr} {s' : List AObj} (h : Runs LL P N rd c fr0 s e fr' s') (hf : ∀ t x, look fr0 t = some x → look fr t = some x) : Runs LL P N rd c fr s e fr' s' :=
 fun B k a w r h0 h1 h2 h3 => h B k a w r h0 h1 (fun t x hx => h2 t x (hf t x hx)) h3
theorem AW.frame {c : Code} {Q : Exit → Fr → List AObj → Prop} {fr fr0 : Fr} {s : List AObj} (h : AW LL P N rd c Q fr0 s) (hf : ∀ t x, look fr0 t = some x → look fr t = some x) : AW LL P N rd c Q fr s :=
 let ⟨e, fr', s', hq, hr⟩ := h; ⟨e, fr', s', hq, hr.frame hf⟩
theorem AW.mono {c : Code} {Q Q' : Exit → Fr → List AObj → Prop} {fr : Fr} {s : List AObj} (h : AW LL P N rd c Q fr s) (hq : ∀ e fr s, Q e fr s → Q' e fr s) : AW LL P N rd c Q' fr s :=
 let ⟨e, fr', s', q, hr⟩ := h; ⟨e, fr', s', hq _ _ _ q, hr⟩
theorem Ends.now {B : Nat} {k : Cfg} {a : Act} {w : World} {e : Exit} {fr : Fr} {s : List AObj} (h1 : a.tmps.size = N) (h2 : FR k w a fr) (h3 : St LL B k s w) : Ends LL N B k a.defers w e fr s e a w :=
 ⟨rfl, k, h1, Marks.refl _ _ _ _, Ext.refl _ _ _, h2, h3⟩
section
variable {fr : Fr} {s : List AObj} {Q : Exit → Fr → List AObj → Prop}
theorem AW.skip (h : Q .normal fr s) : AW LL P N rd .skip Q fr s := ⟨_, _, _, h, fun _ _ _ _ _ _ h1 h2 h3 => wpIn_skip (Ends.now h1 h2 h3)⟩
theorem AW.label {l : Nat} (h : Q .normal fr s) : AW LL P N rd (.label l) Q fr s := ⟨_, _, _, h, fun _ _ _ _ _ _ h1 h2 h3 => wpIn_label (Ends.now h1 h2 h3)⟩
theorem AW.exit {id : Nat} (h : Q (.exit id) fr s) : AW LL P N rd (.exit id) Q fr s := ⟨_, _, _, h, fun _ _ _ _ _ _ h1 h2 h3 => wpIn_exit (Ends.now h1 h2 h3)⟩
theorem AW.ret (h : Q .ret fr s) : AW LL P N rd .ret Q fr s := ⟨_, _, _, h, fun _ _ _ _ _ _ h1 h2 h3 => wpIn_ret (Ends.now h1 h2 h3)⟩
def SeqQ (K : Fr → List AObj → Prop) (Q : Exit → Fr → List AObj → Prop) : Exit → Fr → List AObj → Prop
 | .normal, fr, s => K fr s
 | e, fr, s => Q e fr s
theorem Runs.seq {x y : Code} {fr1 : Fr} {s1 : List AObj} {e : Exit} {fr2 : Fr} {s2 : List AObj} (h : Runs LL P N rd x fr s .normal fr1 s1) (g : Runs LL P N rd y fr1 s1 e fr2 s2) : Runs LL P N rd (.seq x y) fr s e fr2 s2 := fun B k a w r h0 h1 h2 h3 => by
 refine wpIn_seq (wpIn_mono (h B k a w r h0 h1 h2 h3) ?_)
 rintro e' a' w' ⟨rfl, k', l1, l2, l3, l4, l5⟩
 exact wpIn_mono (g B k' a' w' r (h0.mono l3.mono) l1 l4 l5) fun e2 a2 w2 hh => hh.trans l2 l3
theorem Runs.seqX {x y : Code} {e : Exit} {fr1 : Fr} {s1 : List AObj} (he : e ≠ .normal) (h : Runs LL P N rd x fr s e fr1 s1) : Runs LL P N rd (.seq x y) fr s e fr1 s1 := fun B k a w r h0 h1 h2 h3 => by
 refine wpIn_seq (wpIn_mono (h B k a w r h0 h1 h2 h3) ?_)
 intro e' a' w' hh
 obtain ⟨rfl, hh'⟩ := hh
 cases e' with
 | normal => exact absurd rfl he
 | _ => exact ⟨rfl, hh'⟩
theorem AW.seq {x y : Code} (h : AW LL P N rd x (SeqQ (AW LL P N rd y Q) Q) fr s) : AW LL P N rd (.seq x y) Q fr s := by
 obtain ⟨e, fr1, s1, hq, hr⟩ := h
 by_cases he : e = .normal
 · subst he
   obtain ⟨e2, fr2, s2, q2, r2⟩ := hq
   exact ⟨e2, fr2, s2, q2, hr.seq r2⟩
 · refine ⟨e, fr1, s1, ?_, hr.seqX he⟩
   cases e with
   | normal => exact absurd rfl he
   | _ => exact hq
theorem AW.cond {c : Operand} {x y : Code} {v : Bool} (hc : ∀ (k : Cfg) (a : Act) (w : World), FR k w a fr → a.eval c = .bool v) (h : AW LL P N rd (if v then x else y) Q fr s) : AW LL P N rd (.cond c x y) Q fr s := by
 obtain ⟨e, fr1, s1, hq, hr⟩ := h
 exact ⟨e, fr1, s1, hq, fun B k a w r h0 h1 h2 h3 => wpIn_cond (t := v) (hc k a w h2) (hr B k a w r h0 h1 h2 h3)⟩
def BlockQ (id : Nat) (Q : Exit → Fr → List AObj → Prop) : Exit → Fr → List AObj → Prop
 | .exit id', fr, s => if id' = id then Q .normal fr s else Q (.exit id') fr s
 | e, fr, s => Q e fr s
def blockE (id : Nat) : Exit → Exit
 | .exit id' => if id' = id then .normal else .exit id'
 | e => e
theorem BlockQ_eq (id : Nat) (e : Exit) (fr : Fr) (s : List AObj) : BlockQ id Q e fr s = Q (blockE id e) fr s := by
 cases e with
 | exit id' => show (if id' = id then _ else _) = Q (if id' = id then _ else _) fr s; split <;> rfl
 | _ => rfl
theorem AW.block {id : Nat} {c : Code} (h : AW LL P N rd c (BlockQ id Q) fr s) : AW LL P N rd (.block id c) Q fr s := by
 obtain ⟨e, fr1, s1, hq, hr⟩ := h
 rw [BlockQ_eq] at hq
 refine ⟨_, fr1, s1, hq, fun B k a w r h0 h1 h2 h3 => wpIn_block (wpIn_mono (hr B k a w r h0 h1 h2 h3) ?_)⟩
 rintro e' a' w' ⟨rfl, hh⟩
 cases e' with
 | exit id' =>
   show if id' = id then _ else _
   by_cases e : id' = id
   · have hE : blockE id (.exit id') = .normal := if_pos e
     rw [if_pos e, hE]; exact ⟨rfl, hh⟩
   · have hE : blockE id (.exit id') = .exit id' := if_neg e
     rw [if_neg e, hE]; exact ⟨rfl, hh⟩
 | _ => exact ⟨rfl, hh⟩
inductive LoopTr (LL : Nat → Code → CC → Prop) (P : Program) (N : Nat) (rd : Option Nat) (c : Code) (e : Exit) (fr' : Fr) (s' : List AObj) : Nat → Fr → List AObj → Prop
 | last {fr : Fr} {s : List AObj} : e ≠ .normal → Runs LL P N rd c fr s e fr' s' → LoopTr LL P N rd c e fr' s' 0 fr s
 | more {n : Nat} {fr fr1 : Fr} {s s1 : List AObj} : Runs LL P N rd c fr s .normal fr1 s1 → LoopTr LL P N rd c e fr' s' n fr1 s1 → LoopTr LL P N rd c e fr' s' (n + 1) fr s
theorem LoopTr.runs {c : Code} {e : Exit} {fr' : Fr} {s' : List AObj} {n : Nat} (h : LoopTr LL P N rd c e fr' s' n fr s) : Runs LL P N rd (.loop c) fr s e fr' s' := fun B k a w r h0 h1 h2 h3 => by
 refine wpIn_loop_ghost (fun n a1 w1 => ∃ fr1 s1 k1, LoopTr LL P N rd c e fr' s' n fr1 s1 ∧ a1.tmps.size = N ∧ Marks w w1 k1 a.defers a1.defers ∧ Ext B k w k1 w1 ∧ FR k1 w1 a1 fr1 ∧ St LL B k1 s1 w1) n
   ⟨fr, s, k, h, h1, Marks.refl _ _ _ _, Ext.refl _ _ _, h2, h3⟩ ?_
 rintro n a1 w1 ⟨fr1, s1, k1, ht, l1, l2, l3, l4, l5⟩
 cases ht with
 | last he hr =>
   refine wpIn_mono (hr B k1 a1 w1 r (h0.mono l3.mono) l1 l4 l5) fun e2 a2 w2 hh => ?_
   have hh' := hh.trans l2 l3
   obtain ⟨rfl, hh2⟩ := hh'
   cases e2 with
   | normal => exact absurd rfl he
   | _ => exact ⟨rfl, hh2⟩
 | more hr ht' =>
   refine wpIn_mono (hr B k1 a1 w1 r (h0.mono l3.mono) l1 l4 l5) ?_
   rintro e2 a2 w2 ⟨rfl, k2, m1, m2, m3, m4, m5⟩
   exact ⟨_, Nat.lt_succ_self _, _, _, k2, ht', m1, l2.trans l3.below.size m3 m2, l3.trans m3, m4, m5⟩
theorem AW.loop {c : Code} (Inv : Nat → Fr → List AObj → Prop) {m : Nat} (h0 : Inv m fr s) (h : ∀ m fr s, Inv m fr s → AW LL P N rd c (SeqQ (fun fr' s' => ∃ m', m' < m ∧ Inv m' fr' s') Q) fr s) : AW LL P N rd (.loop c) Q fr s := by
 have key : ∀ m fr s, Inv m fr s → ∃ e fr' s' n, Q e fr' s' ∧ LoopTr LL P N rd c e fr' s' n fr s := by
   intro m
   induction m using Nat.strongRecOn with
   | _ m ih =>
     intro fr s hi
     obtain ⟨e, fr1, s1, hq, hr⟩ := h m fr s hi
     by_cases he : e = .normal
     · subst he
       obtain ⟨m', hlt, hi'⟩ := hq
       obtain ⟨e2, fr2, s2, n, q2, t2⟩ := ih m' hlt fr1 s1 hi'
       exact ⟨e2, fr2, s2, n + 1, q2, .more hr t2⟩
     · refine ⟨e, fr1, s1, 0, ?_, .last he hr⟩
       cases e with
       | normal => exact absurd rfl he
       | _ => exact hq
 obtain ⟨e, fr', s', n, hq, ht⟩ := key m fr s h0
 exact ⟨e, fr', s', hq, ht.runs⟩
end
def Enters (P : Program) (f : FuncId) : Prop := ∀ (args : Array Value) (w : World), (callFunc f args).run P w = .ok (.enter f args) w
structure FnRuns (LL : Nat → Code → CC → Prop) (P : Program) (f : FuncId) (xs : List AV) (s : List AObj) (d : AV) (s' : List AObj) : Prop where
 enters : Enters P f
 calls : ∀ (B : Nat) (k : Cfg) (w : World) (vs : List Value), St LL B k s w → RVs k w vs xs → Calls P f vs.toArray w fun e w' => ∃ v k', e = .returned v ∧ RA k' w' v d ∧ Ext B k w k' w' ∧ St LL B k' s' w'
def YldRuns (LL : Nat → Code → CC → Prop) (P : Program) (id : Nat) (xs : List AV) (s : List AObj) (d : AV) (s' : List AObj) : Prop :=
 ∀ (B : Nat) (k : Cfg) (w : World) (vs : List Value) (b : Nat), St LL B k s w → RVs k w vs xs → k.own[id]? = some (.blk b) →
   ∃ fn tmps assign body, (Instr.yield b vs.toArray).run P w = .ok (.round b fn tmps assign body) w ∧ RoundIn Fence.wide 0 P b fn tmps assign body w fun e w' => ∃ v k', e = .returned v ∧ RA k' w' v d ∧ Ext B k w k' w' ∧ St LL B k' s' w'
def CalRuns (LL : Nat → Code → CC → Prop) (P : Program) : AV → List AV → List AObj → AV → List AObj → Prop
 | .clo f fs cs, xs, s, d, s' => FnRuns LL P f (fs ++ xs ++ cs) s d s'
 | .yld id, xs, s, d, s' => YldRuns LL P id xs s d s'
 | _, _, _, _, _ => False
def CallK (LL : Nat → Code → CC → Prop) (P : Program) (c : AV) (xs : List AV) (s : List AObj) (K : AV → List AObj → Prop) : Prop := ∃ d s', CalRuns LL P c xs s d s' ∧ K d s'
theorem CallK.mono {c : AV} {xs : List AV} {s : List AObj} {K K' : AV → List AObj → Prop} (h : CallK LL P c xs s K) (hk : ∀ d s, K d s → K' d s) : CallK LL P c xs s K' := let ⟨d, s', h1, h2⟩ := h; ⟨d, s', h1, hk _ _ h2⟩
theorem callsIn_FW {r : Option Nat} {f : FuncId} {args : Array Value} {w : World} {R : Ending → World → Prop} (h : Calls P f args w R) : CallsIn (FW r) 0 P f args w R := by
 cases r with
 | none => exact callsIn_wide.2 h
 | some l => exact callsIn_wide (n := 0).2 h
theorem roundIn_FW {r : Option Nat} {l : Nat} {f : FuncId} {tmps : Array Value} {assign body : Code} {w : World} {R : Ending → World → Prop} (h : RoundIn Fence.wide 0 P l f tmps assign body w R) : RoundIn (FW r) 0 P l f tmps assign body w R := by
 cases r with
 | none => exact h
 | some l => exact h
def closeAll (w : World) (ms : List Nat) : World := ms.foldl (fun w b => w.putObj b (.deferred none)) w
theorem closeAll_other {b : Nat} : ∀ (ms : List Nat) (w : World), b ∉ ms → (closeAll w ms).heap[b]? = w.heap[b]?
 | [], _, _ => rfl
 | m :: ms, w, h => by
   show (closeAll (w.putObj m (.deferred none)) ms).heap[b]? = _
   rw [closeAll_other ms _ (fun hh => h (by simp [hh])), World.putObj_heap_other (fun e => h (by simp [e]))]
theorem closeAll_size : ∀ (ms : List Nat) (w : World), (closeAll w ms).heap.size = w.heap.size ∧ (closeAll w ms).os = w.os ∧ (closeAll w ms).tape = w.tape ∧ (closeAll w ms).output = w.output
 | [], _ => ⟨rfl, rfl, rfl, rfl⟩
 | m :: ms, w => by
   obtain ⟨h1, h2, h3, h4⟩ := closeAll_size ms (w.putObj m (.deferred none))
   exact ⟨h1.trans World.putObj_size, h2, h3, h4⟩
theorem leaves_marks {fn : Func} {tmps : Array Value} {R : Ending → World → Prop} : ∀ (ms : List Nat) (w : World), ms.Nodup → (∀ b ∈ ms, w.heap[b]? = some (.deferred (some []))) →
   (∃ v, (results fn tmps).run P (closeAll w ms) = .ok v (closeAll w ms) ∧ R (.returned v) (closeAll w ms)) → LeavesInM Fence.wide 0 P fn tmps R (ms.map mark) .returning w
 | [], w, _, _, h => h
 | m :: ms, w, hnd, hm, h => by
   refine ⟨by simp, .inl ⟨m, w.putObj m (.deferred none), rfl, run_takeDeferred (hm m (by simp)), ?_⟩⟩
   refine leaves_marks ms _ (List.nodup_cons.1 hnd).2 (fun b hb => ?_) h
   rw [World.putObj_heap_other (fun e => by subst e; exact (List.nodup_cons.1 hnd).1 hb)]
   exact hm b (by simp [hb])
theorem close_ok {B : Nat} {k0 k : Cfg} {s : List AObj} {w0 w : World} {ms : List Nat} (hb : ∀ b ∈ ms, w0.heap.size ≤ b ∧ w.heap[b]? = some (.deferred (some [])) ∧ Unowned k b) (he : Ext B k0 w0 k w) (hs : St LL B k s w) (hB : B ≤ w0.heap.size) :
   Mono k w k (closeAll w ms) ∧ Ext B k0 w0 k (closeAll w ms) ∧ St LL B k s (closeAll w ms) := by
 obtain ⟨c1, c2, c3, c4⟩ := closeAll_size ms w
 have hcell : ∀ b o u, w.cell? ⟨b, o, none⟩ = some u → (closeAll w ms).cell? ⟨b, o, none⟩ = some u := fun b o u hc => by
   have hn : b ∉ ms := fun hm => by
     have := (hb b hm).2.1
     unfold World.cell? at hc
     rw [this] at hc; cases hc
   rw [World.cell?_of_block (w := w) (closeAll_other ms w hn)]; exact hc
 have hm : Mono k w k (closeAll w ms) := ⟨fun b o u h hc => ⟨h, hcell b o u hc⟩, fun _ o h => ⟨o, h, OwnLe.refl o⟩⟩
 have hlow : ∀ b, b < w0.heap.size → b ∉ ms := fun b hlt hmem => by have := (hb b hmem).1; omega
 refine ⟨hm, ⟨he.mono.trans hm, ⟨c2.trans he.below.os, c3.trans he.below.tape, c4.trans he.below.output, by rw [c1]; exact he.below.size, fun b hlt => ?_⟩, he.low, fun b hlt hu => ?_, he.fresh⟩, ?_⟩
 · rw [closeAll_other ms w (hlow b (by omega))]; exact he.below.block b hlt
 · rw [closeAll_other ms w (hlow b hlt)]; exact he.rest b hlt hu
 · refine hs.same hm (by rw [c1]; exact Nat.le_refl _) rfl fun b hu => ⟨closeAll_other ms w fun hmem => hu (hb b hmem).2.2, rfl⟩
theorem FnRuns.of {f : FuncId} {fn : Func} {c : Code} {xs : List AV} {s : List AObj} {d : AV} {s' : List AObj} {fr fr' : Fr} {e : Exit} (hfn : P.funcs[f]? = some fn) (hb : fn.body = some c) (hn : (fn.name == "runtime.NumGoroutine") = false) (he : e = .normal ∨ e = .ret)
   (hx : xs.length ≤ fn.ntmps) (hfr : ∀ (k : Cfg) (w : World) (vs : List Value), RVs k w vs xs → FR k w { tmps := vs.toArray ++ Array.replicate (fn.ntmps - vs.toArray.size) undef, defers := [] } fr)
   (hr : Runs LL P fn.ntmps none c fr s e fr' s')
   (hres : ∀ (B : Nat) (k : Cfg) (a : Act) (w : World), FR k w a fr' → St LL B k s' w → ∃ v, (results fn a.tmps).run P w = .ok v w ∧ RA k w v d) : FnRuns LL P f xs s d s' := by
 have hn' : fn.name ≠ "runtime.NumGoroutine" := by simpa using hn
 refine ⟨fun args w => by simp [callFunc, hfn, hn', hb, Go.mark], fun B k w vs hst hvs => ?_⟩
 rw [← callsIn_wide (n := 0)]
 refine callsIn_of_wp_marks hfn hb trivial ?_
 have hlen := hvs.1
 refine wpIn_mono (hr B k _ w none trivial (by simp; omega) (hfr k w vs hvs) hst) ?_
 rintro e' a' w' ⟨rfl, k', l1, ⟨ms, hms, hnd, hmk⟩, l3, l4, l5⟩
 obtain ⟨m1, m2, m3⟩ := close_ok hmk l3 l5 hst.base
 have hD : a'.defers = ms.map mark := by rw [hms]; simp
 have fin : LeavesInM Fence.wide 0 P fn a'.tmps (fun e w'' => ∃ v k'', e = .returned v ∧ RA k'' w'' v d ∧ Ext B k w k'' w'' ∧ St LL B k'' s' w'') a'.defers .returning w' := by
   rw [hD]
   refine leaves_marks ms w' hnd (fun b hb => (hmk b hb).2.1) ?_
   obtain ⟨v, hv1, hv2⟩ := hres B k' a' _ (l4.mono m1) m3
   exact ⟨v, hv1, v, k', rfl, hv2, m2, m3⟩
 rcases he with rfl | rfl
 · exact fin
 · exact fin
end
end Go.Bb
