/-
  Part GAI of this claim's proof. Joined by merge.py from the texts of wip/tpl.
-/
import Derived.Test.YtclholnhkhjjaaaGreatGAH
import Derived.Test.YtclholnhkhjjaaaGreatBb5
set_option linter.unusedVariables false
set_option linter.unusedSimpArgs false
set_option linter.unnecessarySimpa false
set_option linter.unusedVariables false
namespace Go.Bb
open Go Go.RowKit Go.Ab Go.Proofs.Lg
def wpK (P : Program) (rd : Option Nat) : CC → (Exit → Fr → List AObj → Prop) → Fr → List AObj → Prop
 | .skip, Q, fr, s => Q .normal fr s
 | .ops dr bf l, Q, fr, s => wpC P l (OpsQ dr bf Q) [] fr s
 | .seq a b, Q, fr, s => wpK P rd a (SeqQ (wpK P rd b Q) Q) fr s
 | .cond c a b, Q, fr, s => match (c.ev fr).bind AV.bool? with
   | some v => Both v (wpK P rd b Q fr s) (wpK P rd a Q fr s)
   | none => False
 | .block id c, Q, fr, s => wpK P rd c (BlockQ id Q) fr s
 | .loop c, Q, fr, s => LoopP (wpK P rd c) Q fr s
 | .exit id, Q, fr, s => Q (.exit id) fr s
 | .ret, Q, fr, s => Q .ret fr s
 | .trim keep c, Q, fr, s => wpK P rd c Q (restr keep fr) s
theorem wpC_mono {P : Program} : ∀ {l : List CO} {K K' : Fr → List AObj → List Nat → Prop} (_ : ∀ fr s fl, K fr s fl → K' fr s fl) {acc : List Nat} {fr : Fr} {s : List AObj}, wpC P l K acc fr s → wpC P l K' acc fr s
 | [], K, K', hk, acc, fr, s, h => hk _ _ _ h
 | o :: l, K, K', hk, acc, fr, s, h => by
   unfold wpC at h ⊢
   split at h
   · exact h
   · rename_i b hb
     refine ⟨fun e => wpC_mono hk (h.1 e), fun e => ?_⟩
     have h2 := h.2 e
     split at h2
     · split at h2
       · exact h2.mono fun _ _ _ h => wpC_mono hk h
       · exact h2
     · split at h2
       · rename_i d s' hd; exact wpC_mono hk h2
       · exact h2
theorem wpK_mono {P : Program} {rd : Option Nat} : ∀ {c : CC} {Q Q' : Exit → Fr → List AObj → Prop} {fr : Fr} {s : List AObj}, wpK P rd c Q fr s → (∀ e fr s, Q e fr s → Q' e fr s) → wpK P rd c Q' fr s
 | .skip, Q, Q', fr, s, h, hq => hq _ _ _ h
 | .ops dr bf l, Q, Q', fr, s, h, hq => wpC_mono (fun _ _ _ h => ⟨h.1, hq _ _ _ h.2⟩) h
 | .seq a b, Q, Q', fr, s, h, hq => wpK_mono (c := a) h fun e fr s h2 => by
     cases e with
     | normal => exact wpK_mono (c := b) h2 hq
     | _ => exact hq _ _ _ h2
 | .cond c a b, Q, Q', fr, s, h, hq => by
   unfold wpK at h ⊢
   split at h
   · exact ⟨fun e => wpK_mono (h.1 e) hq, fun e => wpK_mono (h.2 e) hq⟩
   · exact h
 | .block id c, Q, Q', fr, s, h, hq => wpK_mono (c := c) h fun e fr s h2 => by
     rw [BlockQ_eq] at h2 ⊢; exact hq _ _ _ h2
 | .loop c, Q, Q', fr, s, h, hq => by
   obtain ⟨Inv, h1, h2⟩ := h
   refine ⟨Inv, h1, fun m fr s hi => wpK_mono (h2 m fr s hi) fun e fr s h3 => ?_⟩
   cases e with
   | normal => exact h3
   | _ => exact hq _ _ _ h3
 | .exit id, Q, Q', fr, s, h, hq => hq _ _ _ h
 | .ret, Q, Q', fr, s, h, hq => hq _ _ _ h
 | .trim keep c, Q, Q', fr, s, h, hq => wpK_mono (c := c) h hq
def LoopK (P : Program) (rd : Option Nat) (c : CC) (Q : Exit → Fr → List AObj → Prop) (fr : Fr) (s : List AObj) : Prop := LoopP (wpK P rd c) Q fr s
def CallQ (P : Program) (l : List CO) (K : Fr → List AObj → List Nat → Prop) (acc : List Nat) (fr : Fr) (dst : Option Nat) (d : AV) (s : List AObj) (fl : Nat) : Prop := wpC P l K (fl :: acc) (putF fr dst d) s
section
variable (P : Program) (rd : Option Nat) (Q : Exit → Fr → List AObj → Prop) (fr : Fr) (s : List AObj)
theorem wpK_skip : wpK P rd .skip Q fr s = Q .normal fr s := propext Iff.rfl
theorem wpK_ops (dr : Bool) (bf : List Nat) (l : List CO) : wpK P rd (.ops dr bf l) Q fr s = wpC P l (OpsQ dr bf Q) [] fr s := propext Iff.rfl
theorem wpK_seq (a b : CC) : wpK P rd (.seq a b) Q fr s = wpK P rd a (SeqQ (wpK P rd b Q) Q) fr s := propext Iff.rfl
theorem wpK_cond (c : X) (a b : CC) : wpK P rd (.cond c a b) Q fr s = match (c.ev fr).bind AV.bool? with
   | some v => Both v (wpK P rd b Q fr s) (wpK P rd a Q fr s)
   | none => False := propext Iff.rfl
theorem wpK_block (id : Nat) (c : CC) : wpK P rd (.block id c) Q fr s = wpK P rd c (BlockQ id Q) fr s := propext Iff.rfl
theorem wpK_loop (c : CC) : wpK P rd (.loop c) Q fr s = LoopK P rd c Q fr s := propext Iff.rfl
theorem wpK_exit (id : Nat) : wpK P rd (.exit id) Q fr s = Q (.exit id) fr s := propext Iff.rfl
theorem wpK_ret : wpK P rd .ret Q fr s = Q .ret fr s := propext Iff.rfl
theorem wpC_nil (K : Fr → List AObj → List Nat → Prop) (acc : List Nat) : wpC P [] K acc fr s = K fr s acc.reverse := propext Iff.rfl
theorem CallQ_eq (l : List CO) (K : Fr → List AObj → List Nat → Prop) (acc : List Nat) (dst : Option Nat) (d : AV) (fl : Nat) : CallQ P l K acc fr dst d s fl = wpC P l K (fl :: acc) (putF fr dst d) s := propext Iff.rfl
theorem wpC_cons (o : CO) (l : List CO) (K : Fr → List AObj → List Nat → Prop) (acc : List Nat) : wpC P (o :: l) K acc fr s = match gdC fr o.g with
   | none => False
   | some b => Both b (wpC P l K (0 :: acc) (putF fr o.dst undefA) s) (match o.ci with
     | .call c xs => match calleeA fr c, evA fr xs with
       | some cv, some vs => CallM P cv vs s (CallQ P l K acc fr o.dst)
       | _, _ => False
     | ci => match ci.sem fr s with
       | some (d, s') => wpC P l K (ci.mark fr :: acc) (putF fr o.dst d) s'
       | none => False) := propext Iff.rfl
end
theorem LoopK.intro {P : Program} {rd : Option Nat} {c : CC} {Q : Exit → Fr → List AObj → Prop} {fr : Fr} {s : List AObj} (Inv : Nat → Fr → List AObj → Prop) (m : Nat) (fr0 : Fr) (hs : Sub fr0 fr) (h0 : Inv m fr0 s)
   (h : ∀ m fr s, Inv m fr s → wpK P rd c (SeqQ (fun fr' s' => ∃ m' fr'', m' < m ∧ Sub fr'' fr' ∧ Inv m' fr'' s') Q) fr s) : LoopK P rd c Q fr s := ⟨Inv, ⟨m, fr0, hs, h0⟩, h⟩
def SubB : Fr → Fr → Prop
 | [], _ => True
 | (t, x) :: r, fr => look fr t = some x ∧ SubB r fr
theorem SubB.sub : ∀ {r fr : Fr}, SubB r fr → Sub r fr
 | [], fr, _ => Sub.nil fr
 | (_, _) :: _, _, h => Sub.cons h.1 (SubB.sub h.2)
theorem LoopK.at {P : Program} {rd : Option Nat} {c : CC} {Q : Exit → Fr → List AObj → Prop} {fr : Fr} {s : List AObj} {β : Type} (F : β → Fr) (S : β → List AObj) (I : Nat → β → Prop) (m : Nat) (b : β) (hs : SubB (F b) fr) (hS : s = S b) (h0 : I m b)
   (h : ∀ m b, I m b → wpK P rd c (SeqQ (fun fr' s' => ∃ m' b', m' < m ∧ SubB (F b') fr' ∧ s' = S b' ∧ I m' b') Q) (F b) (S b)) : LoopK P rd c Q fr s := by
 refine LoopK.intro (fun m fr s => ∃ b, fr = F b ∧ s = S b ∧ I m b) m (F b) hs.sub ⟨b, rfl, hS, h0⟩ ?_
 rintro m _ _ ⟨b, rfl, rfl, hi⟩
 refine wpK_mono (h m b hi) fun e fr' s' hq => ?_
 cases e with
 | normal => obtain ⟨m', b', h1, h2, h3, h4⟩ := hq; exact ⟨m', F b', h1, h2.sub, b', rfl, h3, h4⟩
 | _ => exact hq
theorem LoopK.count {P : Program} {rd : Option Nat} {c : CC} {Q : Exit → Fr → List AObj → Prop} {fr : Fr} {s : List AObj} (F : Nat → Fr) (S : Nat → List AObj) (I : Nat → Prop) (n : Nat) (hs : SubB (F 0) fr) (hS : s = S 0) (h0 : I 0)
   (h : ∀ k, k ≤ n → I k → wpK P rd c (SeqQ (fun fr' s' => k < n ∧ SubB (F (k + 1)) fr' ∧ s' = S (k + 1) ∧ I (k + 1)) Q) (F k) (S k)) : LoopK P rd c Q fr s := by
 refine LoopK.at F S (fun m k => k ≤ n ∧ m = n - k ∧ I k) n 0 hs hS ⟨Nat.zero_le _, by omega, h0⟩ ?_
 rintro m k ⟨hk, hm, hi⟩
 refine wpK_mono (h k hk hi) fun e fr' s' hq => ?_
 cases e with
 | normal => obtain ⟨h1, h2, h3, h4⟩ := hq; exact ⟨n - (k + 1), k + 1, by omega, h2, h3, by omega, rfl, h4⟩
 | _ => exact hq
theorem LoopK.countJ {P : Program} {rd : Option Nat} {c : CC} {Q : Exit → Fr → List AObj → Prop} {fr : Fr} {s : List AObj} (F : Nat → Fr) (S : Nat → List AObj → List AObj) (I : Nat → Prop) (n : Nat) (J0 : List AObj) (hs : SubB (F 0) fr) (hS : s = S 0 J0) (h0 : I 0)
   (h : ∀ k J, k ≤ n → I k → wpK P rd c (SeqQ (fun fr' s' => k < n ∧ SubB (F (k + 1)) fr' ∧ (∃ J', s' = S (k + 1) J') ∧ I (k + 1)) Q) (F k) (S k J)) : LoopK P rd c Q fr s := by
 refine LoopK.at (fun b : Nat × List AObj => F b.1) (fun b => S b.1 b.2) (fun m b => b.1 ≤ n ∧ m = n - b.1 ∧ I b.1) n (0, J0) hs hS ⟨Nat.zero_le _, by simp, h0⟩ ?_
 rintro m ⟨k, J⟩ ⟨hk, hm, hi⟩
 refine wpK_mono (h k J hk hi) fun e fr' s' hq => ?_
 cases e with
 | normal => obtain ⟨h1, h2, ⟨J', h3⟩, h4⟩ := hq; exact ⟨n - (k + 1), (k + 1, J'), by dsimp only at hm hk; omega, h2, h3, by dsimp only; omega, rfl, h4⟩
 | _ => exact hq
theorem wpK_ok {P : Program} {N : Nat} {rd : Option Nat} : ∀ {cc : CC} {Q : Exit → Fr → List AObj → Prop} {fr : Fr} {s : List AObj}, wpK P rd cc Q fr s → AC P N rd cc Q fr s
 | .skip, Q, fr, s, hw => AC.skip hw
 | .ops dr bf l, Q, fr, s, hw => AC.ops hw
 | .seq a b, Q, fr, s, hw => AC.seq ((wpK_ok (cc := a) hw).mono fun e fr' s' hq => by
     cases e with
     | normal => exact wpK_ok (cc := b) hq
     | _ => exact hq)
 | .cond c a b, Q, fr, s, hw => by
   unfold wpK at hw
   split at hw
   · rename_i v hv
     refine AC.cond hv ?_
     cases v with
     | true => exact wpK_ok (hw.2 rfl)
     | false => exact wpK_ok (hw.1 rfl)
   · exact hw.elim
 | .block id c, Q, fr, s, hw => AC.block (wpK_ok (cc := c) hw)
 | .loop c, Q, fr, s, hw => by
   obtain ⟨Inv, ⟨m, fr0, hs, h0⟩, hround⟩ := hw
   exact AC.loop Inv hs h0 fun m fr s hi => wpK_ok (hround m fr s hi)
 | .exit id, Q, fr, s, hw => AC.exit hw
 | .ret, Q, fr, s, hw => AC.ret hw
 | .trim keep c, Q, fr, s, hw => AC.trim (wpK_ok (cc := c) hw)
inductive CR where
 | tmp (t : Nat)
 | cell (t : Nat) (n : Option Nat)
def cR (P : Program) : ResultVar → Option CR
 | .tmp t => some (.tmp t)
 | .cell t ty => (szOf P ty).map (.cell t)
def cRs (P : Program) : List ResultVar → Option (List CR)
 | [] => some []
 | r :: l => match cR P r, cRs P l with
   | some c, some cs => some (c :: cs)
   | _, _ => none
structure CF where
 n : Nat
 body : CC
 res : List CR
def CF.erase (F : CF) : CF := ⟨F.n, F.body.erase, F.res⟩
def compFn (P : Program) (mus : List Nat) (f : FuncId) : Option CF :=
 match P.funcs[f]? with
 | some fn => match fn.body with
   | some c => if fn.name == "runtime.NumGoroutine" then none else match comp P mus fn.ntmps c, cRs P fn.results.toList with
     | some cc, some rs => some ⟨fn.ntmps, cc, rs⟩
     | _, _ => none
   | none => none
 | none => none
def resOne (fr : Fr) (s : List AObj) : CR → Option AV
 | .tmp t => look fr t
 | .cell t n => (look fr t).bind fun v => rdLd (objOf s v) n v
def resAll (fr : Fr) (s : List AObj) : List CR → Option (List AV)
 | [] => some []
 | r :: l => (resOne fr s r).bind fun x => (resAll fr s l).map (x :: ·)
def tupA : List AV → AV
 | [x] => x
 | l => .tup l
def resA (fr : Fr) (s : List AObj) (rs : List CR) : Option AV := (resAll fr s rs).map tupA
def RetQ (rs : List CR) (K : AV → List AObj → Prop) : Exit → Fr → List AObj → Prop
 | .normal, fr, s => ∃ d, resA fr s rs = some d ∧ K d s
 | .ret, fr, s => ∃ d, resA fr s rs = some d ∧ K d s
 | _, _, _ => False
theorem ld_ok {P : Program} {LL : Nat → Code → CC → Prop} {B : Nat} {k : Cfg} {w : World} {s : List AObj} {t : TypeId} {n : Option Nat} {u : Value} {v d : AV} (hst : St LL B k s w) (hn : szOf P t = some n) (hr : RA k w u v) (hd : rdLd (objOf s v) n v = some d) : ∃ y, (Instr.loadAt t u).run P w = .ok y w ∧ RA k w y d := by
 unfold rdLd at hd
 split at hd
 · have h1 := hr.d_inv
   cases h1 with
   | ref b off us ds h1 h2 h3 h4 => exact load_pickD (P := P) (base := off) (off := 0) (fun i u hu => (h3 i u hu).2) ⟨h1, h2, h4⟩ hn hd
 · rename_i id off
   obtain ⟨cs, hcs, hd⟩ := bind_inv hd
   obtain ⟨b, hb, hvv⟩ := hr.ptr_inv
   obtain ⟨b', t', us, g1, g2, g3, _⟩ := hst.cells (cellsO_inv hcs)
   rw [hb] at g1; cases g1
   obtain ⟨y, hy1, hy2⟩ := load_pickM (P := P) (base := 0) (off := off) (b := b) (fun i u hu => by rw [Nat.zero_add, cells_at g2]; exact hu) g3 hn hd
   rw [Nat.zero_add] at hy1
   exact ⟨y, by rw [hvv]; exact hy1, hy2⟩
 · rename_i id m off
   obtain ⟨⟨sz, ds⟩, hcs, hd⟩ := bind_inv hd
   obtain ⟨e, hid, hsz, hlen⟩ := vecO_inv hcs
   obtain ⟨b, hvv, hb⟩ := hr.vptr_inv
   obtain ⟨u, xs, cap, cur, g1, g2, rfl, g3, g4, g5, g6, g7, g8, g9, g10, g11⟩ := vec_at hst hid hsz hlen hb
   obtain ⟨y, hy1, hy2⟩ := load_pickM (P := P) (base := 0) (off := off) (b := b) (fun i u hu => by rw [Nat.zero_add]; exact g11 i u hu) g9 hn hd
   rw [Nat.zero_add] at hy1
   exact ⟨y, by rw [hvv]; exact hy1, hy2⟩
 · cases hd
theorem resOne_ok {P : Program} {rv : ResultVar} {c : CR} (h : cR P rv = some c) {fr : Fr} {s : List AObj} {d : AV} (hd : resOne fr s c = some d) {LL : Nat → Code → CC → Prop} {B : Nat} {k : Cfg} {a : Act} {w : World} (hf : FR k w a fr) (hs : St LL B k s w) :
   ∃ v, (match rv with
     | .tmp t => pure (a.tmps.getD t undef)
     | .cell a' t => do loadVar t (← asAddr (a.tmps.getD a' undef)) : Sem Value).run P w = .ok v w ∧ RA k w v d := by
 cases rv with
 | tmp t =>
   simp [cR] at h; subst h
   exact ⟨_, rfl, hf t _ hd⟩
 | cell t ty =>
   unfold cR at h
   obtain ⟨n, hn, rfl⟩ := Option.map_eq_some_iff.1 h
   obtain ⟨v, hv, hd⟩ := bind_inv (show (look fr t).bind (fun v => rdLd (objOf s v) n v) = some d from hd)
   have hr := hf t v hv
   obtain ⟨y, hy1, hy2⟩ := ld_ok hs hn hr hd
   refine ⟨y, ?_, hy2⟩
   have hp : ∃ p, a.tmps.getD t undef = .pointer (some p) := by
     unfold rdLd at hd
     split at hd
     · have h1 := hr.d_inv
       generalize a.tmps.getD t undef = z at h1
       cases h1; exact ⟨_, rfl⟩
     · obtain ⟨b, _, e⟩ := hr.ptr_inv; exact ⟨_, e⟩
     · obtain ⟨b, e, _⟩ := hr.vptr_inv; exact ⟨_, e⟩
     · cases hd
   obtain ⟨p, hp⟩ := hp
   show (do loadVar ty (← asAddr (a.tmps.getD t undef)) : Sem Value).run P w = .ok y w
   rw [hp] at hy1 ⊢
   simp only [Instr.loadAt, Instr.sureAddr, Sem.run_bind, Sem.run_pure, Result.andThen_ok] at hy1
   simp only [asAddr, Sem.run_bind, Sem.run_pure, Result.andThen_ok, hy1]
theorem resAll_ok {P : Program} {LL : Nat → Code → CC → Prop} {fr : Fr} {s : List AObj} {B : Nat} {k : Cfg} {a : Act} {w : World} (hf : FR k w a fr) (hs : St LL B k s w) : ∀ {rvs : List ResultVar} {cs : List CR} {ds : List AV}, cRs P rvs = some cs → resAll fr s cs = some ds →
   ∃ vs : List Value, (rvs.mapM fun rv => (match rv with
     | .tmp t => pure (a.tmps.getD t undef)
     | .cell a' t => do loadVar t (← asAddr (a.tmps.getD a' undef)) : Sem Value)).run P w = .ok vs w ∧ RVs k w vs ds
 | [], cs, ds, h, hd => by
   simp [cRs] at h; subst h
   simp [resAll] at hd; subst hd
   exact ⟨[], rfl, rfl, by simp⟩
 | rv :: rvs, cs, ds, h, hd => by
   unfold cRs at h
   split at h
   · rename_i c cs' h1 h2
     obtain rfl := Option.some.inj h
     obtain ⟨d, h3, hd⟩ := bind_inv (show (resOne fr s c).bind (fun x => (resAll fr s cs').map (x :: ·)) = some ds from hd)
     obtain ⟨ds', h4, rfl⟩ := map_inv hd
     obtain ⟨v, hv1, hv2⟩ := resOne_ok h1 h3 hf hs
     obtain ⟨vs, hvs1, hvs2⟩ := resAll_ok hf hs h2 h4
     refine ⟨v :: vs, ?_, by simp [hvs2.1], fun i x y hx hy => ?_⟩
     · rw [List.mapM_cons]
       simp only [Sem.run_bind, hv1, Result.andThen_ok, hvs1, Sem.run_pure]
     · cases i with
       | zero => simp at hx hy; subst hx; subst hy; exact hv2
       | succ i => exact hvs2.2 i x y (by simpa using hx) (by simpa using hy)
   · cases h
theorem results_ok {P : Program} {fn : Func} {rs : List CR} (hr : cRs P fn.results.toList = some rs) {LL : Nat → Code → CC → Prop} {fr : Fr} {s : List AObj} {r : AV} (hd : resA fr s rs = some r) {B : Nat} {k : Cfg} {a : Act} {w : World} (hf : FR k w a fr) (hs : St LL B k s w) :
   ∃ v, (results fn a.tmps).run P w = .ok v w ∧ RA k w v r := by
 obtain ⟨ds, hds, rfl⟩ := map_inv hd
 obtain ⟨vs, h1, h2⟩ := resAll_ok hf hs hr hds
 have h3 : (results fn a.tmps).run P w = .ok (if h : vs.toArray.size = 1 then vs.toArray[0] else .tuple vs.toArray) w := by
   unfold results
   rw [← Array.toArray_toList (xs := fn.results), List.mapM_toArray]
   simp only [Sem.run_bind, Sem.run_map, Sem.run_pure]
   erw [h1]
   rfl
 refine ⟨_, h3, ?_⟩
 match ds, vs, h2 with
 | [d], [v], h2 => exact h2.2 0 v d rfl rfl
 | [], [], h2 => exact .tup rfl h2.2
 | d :: d' :: ds, v :: v' :: vs, h2 =>
   rw [dif_neg (by simp)]
   exact .tup h2.1 h2.2
 | [], _ :: _, h2 => simp [RVs] at h2
 | _ :: _, [], h2 => simp [RVs] at h2
 | [_], _ :: _ :: _, h2 => simp [RVs] at h2
 | _ :: _ :: _, [_], h2 => simp [RVs] at h2
def argF : Nat → List AV → Fr
 | _, [] => []
 | i, x :: l => (i, x) :: argF (i + 1) l
theorem look_argF : ∀ (xs : List AV) (n t : Nat), look (argF n xs) t = if n ≤ t then xs[t - n]? else none
 | [], n, t => by simp [argF, look]
 | x :: l, n, t => by
   unfold argF look
   rw [look_argF l (n + 1) t]
   by_cases e : n = t
   · subst e; simp
   · rw [if_neg e]
     by_cases h : n ≤ t
     · rw [if_pos h, if_pos (by omega), show t - n = (t - (n + 1)) + 1 by omega]; rfl
     · rw [if_neg h, if_neg (by omega)]
def FnK (P : Program) (f : FuncId) (xs : List AV) (s : List AObj) (K : AV → List AObj → Prop) : Prop := ∃ d s', FnRuns (LLc P) P f xs s d s' ∧ K d s'
theorem FnK.mono {P : Program} {f : FuncId} {xs : List AV} {s : List AObj} {K K' : AV → List AObj → Prop} (h : FnK P f xs s K) (hk : ∀ d s, K d s → K' d s) : FnK P f xs s K' := let ⟨d, s', h1, h2⟩ := h; ⟨d, s', h1, hk _ _ h2⟩
theorem FnK.ofA {P : Program} {mus : List Nat} {f : FuncId} {F : CF} (hc : compFn P mus f = some F.erase) {xs : List AV} {s : List AObj} {K : AV → List AObj → Prop} (hxs : xs.length ≤ F.n) (h : AC P F.n none F.body (RetQ F.res K) (argF 0 xs) s) : FnK P f xs s K := by
 unfold compFn at hc
 split at hc
 · rename_i fn hfn
   split at hc
   · rename_i c hbody
     split at hc
     · cases hc
     · rename_i hname
       split at hc
       · rename_i cc rs h1 h2
         have hF := Option.some.inj hc
         obtain ⟨e1, e2, e3⟩ : fn.ntmps = F.n ∧ cc = F.body.erase ∧ rs = F.res := by
           unfold CF.erase at hF
           injection hF with e1 e2 e3
           exact ⟨e1, e2, e3⟩
         rw [← e1] at h hxs
         rw [← e3] at h
         rw [e2] at h1
         obtain ⟨e, fr', s', hq, hr⟩ := h
         have hx : ∃ d, (e = .normal ∨ e = .ret) ∧ resA fr' s' rs = some d ∧ K d s' := by
           cases e with
           | normal => obtain ⟨d, h3, h4⟩ := hq; exact ⟨d, .inl rfl, h3, h4⟩
           | ret => obtain ⟨d, h3, h4⟩ := hq; exact ⟨d, .inr rfl, h3, h4⟩
           | _ => exact hq.elim
         obtain ⟨d, he, hd, hk⟩ := hx
         refine ⟨d, s', FnRuns.of hfn hbody (by simpa using hname) he hxs (fun k w vs hvs t x hx => ?_) (hr c ⟨mus, h1⟩) (fun B k a w hf hs => results_ok h2 hd hf hs), hk⟩
         rw [look_argF] at hx
         simp only [Nat.zero_le, if_true, Nat.sub_zero] at hx
         have ht := (List.getElem?_eq_some_iff.1 hx).1
         have hl := hvs.1
         have hv : vs[t]? = some vs[t] := List.getElem?_eq_getElem (by omega)
         have hg : (vs.toArray ++ Array.replicate (fn.ntmps - vs.toArray.size) undef).getD t undef = vs[t] := by
           rw [Array.getD_eq_getD_getElem?, Array.getElem?_append_left (by simp; omega)]
           simp [hv]
         show RA k w ((vs.toArray ++ Array.replicate (fn.ntmps - vs.toArray.size) undef).getD t undef) x
         rw [hg]; exact hvs.2 t _ x hv hx
       · cases hc
   · cases hc
 · cases hc
theorem FnK.of {P : Program} {mus : List Nat} {f : FuncId} {F : CF} (hc : compFn P mus f = some F.erase) {xs : List AV} {s : List AObj} {K : AV → List AObj → Prop} (hxs : xs.length ≤ F.n) (h : wpK P none F.body (RetQ F.res K) (argF 0 xs) s) : FnK P f xs s K := FnK.ofA hc hxs (wpK_ok h)
theorem CallM.fn {P : Program} {f : FuncId} {fs cs vs : List AV} {s : List AObj} {K : AV → List AObj → Nat → Prop} (h : FnK P f (fs ++ vs ++ cs) s fun d s' => K d s' 2) : CallM P (.clo f fs cs) vs s K :=
 let ⟨d, s', h1, h2⟩ := h; .inr (.inl ⟨d, s', h1, h2⟩)
theorem CallK.fn {P : Program} {f : FuncId} {fs cs vs : List AV} {s : List AObj} {K : AV → List AObj → Prop} (h : FnK P f (fs ++ vs ++ cs) s K) : CallK (LLc P) P (.clo f fs cs) vs s K :=
 let ⟨d, s', h1, h2⟩ := h; ⟨d, s', h1, h2⟩
end Go.Bb

set_option linter.unusedVariables false
namespace Go.Bb
open Go Go.RowKit Go.Ab Go.Proofs.Lg
mutual
def AV.shift (n : Nat) : AV → AV
 | .d x => .d x
 | .tsl id sz rows => .tsl (n + id) sz rows
 | .nil sz => .nil sz
 | .emp sz => .emp sz
 | .ptr id o => .ptr (n + id) o
 | .vec id m sz => .vec (n + id) m sz
 | .vptr id m o => .vptr (n + id) m o
 | .win id o m sz => .win (n + id) o m sz
 | .mp id => .mp (n + id)
 | .yld id => .yld (n + id)
 | .clo f fs cs => .clo f (shiftL n fs) (shiftL n cs)
 | .agg cs => .agg (shiftL n cs)
 | .tup cs => .tup (shiftL n cs)
def shiftL (n : Nat) : List AV → List AV
 | [] => []
 | x :: l => x.shift n :: shiftL n l
end
theorem shiftL_map (n : Nat) : ∀ l : List AV, shiftL n l = l.map (AV.shift n)
 | [] => by simp [shiftL]
 | x :: l => by simp [shiftL, shiftL_map n l]
theorem shiftL_len (n : Nat) (l : List AV) : (shiftL n l).length = l.length := by rw [shiftL_map, List.length_map]
theorem shiftL_get (n : Nat) {l : List AV} {i : Nat} {c : AV} (h : (shiftL n l)[i]? = some c) : ∃ x, l[i]? = some x ∧ c = x.shift n := by
 rw [shiftL_map, List.getElem?_map] at h
 obtain ⟨x, hx, rfl⟩ := Option.map_eq_some_iff.1 h
 exact ⟨x, hx, rfl⟩
theorem own_app {o1 o2 : List Own} {id : Nat} {o : Own} (h : o2[id]? = some o) : (o1 ++ o2)[o1.length + id]? = some o := by
 rw [List.getElem?_append_right (by omega), Nat.add_sub_cancel_left]; exact h
theorem RA.shift {k : Cfg} {w : World} {v : Value} {x : AV} (h : RA k w v x) (o1 : List Own) : RA ⟨k.I, o1 ++ k.own⟩ w v (x.shift o1.length) := by
 induction h with
 | d h => rw [AV.shift]; exact .d h
 | tsl h1 h2 => rw [AV.shift]; obtain ⟨u, n, h3, h4⟩ := h2; exact .tsl h1 ⟨u, n, own_app h3, h4⟩
 | nil => rw [AV.shift]; exact .nil
 | emp => rw [AV.shift]; exact .emp
 | ptr h => rw [AV.shift]; exact .ptr (own_app h)
 | vec h1 h2 => rw [AV.shift]; obtain ⟨u, n, h3, h4⟩ := h2; exact .vec h1 ⟨u, n, own_app h3, h4⟩
 | vptr h => rw [AV.shift]; obtain ⟨u, n, h3, h4⟩ := h; exact .vptr ⟨u, n, own_app h3, h4⟩
 | win h1 h2 h3 => rw [AV.shift]; exact .win (own_app h1) h2 h3
 | mp h => rw [AV.shift]; exact .mp (own_app h)
 | yld h => rw [AV.shift]; exact .yld (own_app h)
 | clo h1 h2 _ _ i1 i2 =>
   rw [AV.shift]
   refine .clo (by rw [shiftL_len]; exact h1) (by rw [shiftL_len]; exact h2) (fun i u c hu hc => ?_) (fun i u c hu hc => ?_)
   · obtain ⟨x, hx, rfl⟩ := shiftL_get _ hc; exact i1 i u x hu hx
   · obtain ⟨x, hx, rfl⟩ := shiftL_get _ hc; exact i2 i u x hu hx
 | agg h1 h2 _ ih =>
   rw [AV.shift]
   refine .agg (by rw [shiftL_len]; exact h1) h2 (fun i u c hu hc => ?_)
   obtain ⟨x, hx, rfl⟩ := shiftL_get _ hc; exact ih i u x hu hx
 | tup h1 _ ih =>
   rw [AV.shift]
   refine .tup (by rw [shiftL_len]; exact h1) (fun i u c hu hc => ?_)
   obtain ⟨x, hx, rfl⟩ := shiftL_get _ hc; exact ih i u x hu hx
theorem RAs.shift {k : Cfg} {w : World} {us : List Value} {ds : List AV} (h : RAs k w us ds) (o1 : List Own) : RAs ⟨k.I, o1 ++ k.own⟩ w us (shiftL o1.length ds) :=
 ⟨by rw [shiftL_len]; exact h.1, h.2.1, fun i u c hu hc => by obtain ⟨x, hx, rfl⟩ := shiftL_get _ hc; exact (h.2.2 i u x hu hx).shift o1⟩
def shiftFr (n : Nat) (fr : Fr) : Fr := fr.map fun p => (p.1, p.2.shift n)
theorem look_shift (n : Nat) : ∀ {fr : Fr} {t : Nat} {x : AV}, look (shiftFr n fr) t = some x → ∃ y, look fr t = some y ∧ x = y.shift n
 | [], t, x, h => by cases h
 | (u, y) :: fr, t, x, h => by
   have h' : (if u = t then some (y.shift n) else look (shiftFr n fr) t) = some x := h
   unfold look
   by_cases e : u = t
   · rw [if_pos e] at h' ⊢; exact ⟨y, rfl, (Option.some.inj h').symm⟩
   · rw [if_neg e] at h' ⊢; exact look_shift n h'
def AObj.shift (n : Nat) : AObj → AObj
 | .cells ds => .cells (shiftL n ds)
 | .row e sz m => .row e sz m
 | .vec e sz ds => .vec e sz (shiftL n ds)
 | .map ag es => .map ag (es.map fun p => (p.1, p.2.shift n))
 | .loop l => .loop { l with fr := shiftFr n l.fr }
theorem ownsRow_base {w : World} {B B2 e sz n : Nat} {v : Value} {xs : List Value} (h : w.ownsRow B2 e sz v n xs) (hb : B ≤ B2) : w.ownsRow B e sz v n xs := by
 refine ⟨h.1, ?_⟩
 rcases h.2 with h2 | ⟨g, cap, cur, h1, h2, h3⟩
 · exact .inl h2
 · exact .inr ⟨g, cap, cur, h1, Nat.le_trans hb h2, h3⟩
theorem ObjOk.shift {LL : Nat → Code → CC → Prop} {B B2 : Nat} {k : Cfg} {w : World} (hB : B ≤ B2) (o1 : List Own) {x : AObj} {o : Own} (h : ObjOk LL B2 k w x o) : ObjOk LL B ⟨k.I, o1 ++ k.own⟩ w (x.shift o1.length) o := by
 cases x with
 | cells ds =>
   cases o with
   | blk b => obtain ⟨t, us, h1, h2, h3⟩ := h; exact ⟨t, us, h1, h2.shift o1, h3⟩
   | row v n => exact h.elim
 | row e sz m =>
   cases o with
   | blk b => exact h.elim
   | row v n => obtain ⟨h1, ⟨xs, h2⟩, h3⟩ := h; exact ⟨h1, ⟨xs, ownsRow_base h2 hB⟩, h3⟩
 | vec e sz ds =>
   cases o with
   | blk b => exact h.elim
   | row v n => obtain ⟨xs, h1, h2, h3, h4⟩ := h; exact ⟨xs, ownsRow_base h1 hB, h2, by rw [shiftL_len]; exact h3, h4.shift o1⟩
 | map ag es =>
   cases o with
   | blk b =>
     obtain ⟨ents, clk, h1, ⟨m1, m2, m3⟩, h3⟩ := h
     refine ⟨ents, clk, h1, ⟨by simpa using m1, by simpa using m2, fun i e x he hx => ?_⟩, h3⟩
     rw [List.getElem?_map] at hx
     obtain ⟨y, hy, rfl⟩ := Option.map_eq_some_iff.1 hx
     obtain ⟨g1, g2, g3⟩ := m3 i e y he hy
     exact ⟨g1, g2.shift o1, g3⟩
   | row v n => exact h.elim
 | loop l =>
   cases o with
   | blk b =>
     obtain ⟨r, h1, ⟨q1, q2, q3, q4, q5⟩, h3⟩ := h
     exact ⟨r, h1, ⟨q1, q2, q3, fun t x hx => by obtain ⟨y, hy, rfl⟩ := look_shift _ hx; exact (q4 t y hy).shift o1, q5⟩, h3⟩
   | row v n => exact h.elim
theorem St.append {LL : Nat → Code → CC → Prop} {B B2 : Nat} {I : Nat → Nat} {o1 o2 : List Own} {s1 s2 : List AObj} {w : World} (h1 : St LL B ⟨I, o1⟩ s1 w) (h2 : St LL B2 ⟨I, o2⟩ s2 w) (hB : B ≤ B2) (hlow : ∀ (id : Nat) (o : Own) (b : Nat), o1[id]? = some o → o.block = some b → b < B2)
   (hm : Mono ⟨I, o1⟩ w ⟨I, o1 ++ o2⟩ w) (hob : ∀ (x : AObj) (o : Own), ObjOk LL B ⟨I, o1⟩ w x o → ObjOk LL B ⟨I, o1 ++ o2⟩ w x o) : St LL B ⟨I, o1 ++ o2⟩ (s1 ++ s2.map (AObj.shift s1.length)) w := by
 have hl1 : o1.length = s1.length := h1.len
 have hl2 : o2.length = s2.length := h2.len
 have split : ∀ {id : Nat} {o : Own}, (o1 ++ o2)[id]? = some o → (id < o1.length ∧ o1[id]? = some o) ∨ (o1.length ≤ id ∧ o2[id - o1.length]? = some o) := fun {id} {o} h => by
   rw [List.getElem?_append] at h
   split at h
   · exact .inl ⟨by assumption, h⟩
   · exact .inr ⟨by omega, h⟩
 refine ⟨h1.base, by simp [hl1, hl2], fun id x o hs ho => ?_, fun id o b ho hb => ?_, fun i j o o' b hij ho ho' hb hb' => ?_⟩
 · rcases split ho with ⟨hlt, ho1⟩ | ⟨hge, ho2⟩
   · rw [List.getElem?_append_left (by omega)] at hs
     exact hob x o (h1.obj id x o hs ho1)
   · rw [List.getElem?_append_right (by omega), List.getElem?_map] at hs
     obtain ⟨y, hy, rfl⟩ := Option.map_eq_some_iff.1 hs
     rw [← hl1] at hy ⊢
     exact ObjOk.shift hB o1 (h2.obj _ y o hy ho2)
 · rcases split ho with ⟨_, ho1⟩ | ⟨_, ho2⟩
   · exact h1.lies id o b ho1 hb
   · obtain ⟨g1, g2⟩ := h2.lies _ o b ho2 hb; exact ⟨Nat.le_trans hB g1, g2⟩
 · rcases split ho with ⟨l1, ho1⟩ | ⟨l1, ho2⟩ <;> rcases split ho' with ⟨l2, ho1'⟩ | ⟨l2, ho2'⟩
   · exact h1.apart i j o o' b hij ho1 ho1' hb hb'
   · have := hlow i o b ho1 hb
     have := (h2.lies _ o' b ho2' hb').1
     omega
   · have := hlow j o' b ho1' hb'
     have := (h2.lies _ o b ho2 hb).1
     omega
   · exact h2.apart (i - o1.length) (j - o1.length) o o' b (by omega) ho2 ho2' hb hb'
mutual
def AV.free : AV → Option AV
 | .d x => some (.d x)
 | .tsl _ sz rows => some (.d (.sl sz rows))
 | .nil sz => some (.nil sz)
 | .emp sz => some (.emp sz)
 | .clo f fs cs => match freeL fs, freeL cs with
   | some a, some b => some (.clo f a b)
   | _, _ => none
 | .agg cs => match freeL cs with
   | some a => some (.agg a)
   | none => none
 | .tup cs => match freeL cs with
   | some a => some (.tup a)
   | none => none
 | .ptr _ _ => none
 | .vec _ _ _ => none
 | .vptr _ _ _ => none
 | .win _ _ _ _ => none
 | .mp _ => none
 | .yld _ => none
def freeL : List AV → Option (List AV)
 | [] => some []
 | x :: l => match x.free, freeL l with
   | some y, some l' => some (y :: l')
   | _, _ => none
end
theorem freeL_get : ∀ {l l' : List AV}, freeL l = some l' → l'.length = l.length ∧ ∀ (i : Nat) (c : AV), l'[i]? = some c → ∃ x, l[i]? = some x ∧ x.free = some c
 | [], l', h => by simp [freeL] at h; subst h; simp
 | x :: l, l', h => by
   unfold freeL at h
   split at h
   · rename_i y l2 h1 h2
     cases h
     obtain ⟨k1, k2⟩ := freeL_get h2
     refine ⟨by simp [k1], fun i c hc => ?_⟩
     cases i with
     | zero => simp at hc; subst hc; exact ⟨x, rfl, h1⟩
     | succ i => exact k2 i c (by simpa using hc)
   · cases h
theorem RA.free {k : Cfg} {w : World} {v : Value} {x : AV} (h : RA k w v x) (o1 : List Own) : ∀ {y : AV}, x.free = some y → RA ⟨k.I, o1⟩ w v y := by
 induction h with
 | d h => intro y hy; rw [AV.free] at hy; cases hy; exact .d h
 | tsl h1 h2 => intro y hy; rw [AV.free] at hy; cases hy; exact .d h1
 | nil => intro y hy; rw [AV.free] at hy; cases hy; exact .nil
 | emp => intro y hy; rw [AV.free] at hy; cases hy; exact .emp
 | ptr h => intro y hy; rw [AV.free] at hy; cases hy
 | vec h1 h2 => intro y hy; rw [AV.free] at hy; cases hy
 | vptr h => intro y hy; rw [AV.free] at hy; cases hy
 | win h1 h2 h3 => intro y hy; rw [AV.free] at hy; cases hy
 | mp h => intro y hy; rw [AV.free] at hy; cases hy
 | yld h => intro y hy; rw [AV.free] at hy; cases hy
 | clo h1 h2 _ _ i1 i2 =>
   intro y hy
   rw [AV.free] at hy
   split at hy
   · rename_i a b ha hb
     cases hy
     obtain ⟨l1, l2⟩ := freeL_get ha
     obtain ⟨m1, m2⟩ := freeL_get hb
     refine .clo (h1.trans l1.symm) (h2.trans m1.symm) (fun i u c hu hc => ?_) (fun i u c hu hc => ?_)
     · obtain ⟨x, hx, hf⟩ := l2 i c hc; exact i1 i u x hu hx hf
     · obtain ⟨x, hx, hf⟩ := m2 i c hc; exact i2 i u x hu hx hf
   · cases hy
 | agg h1 h2 _ ih =>
   intro y hy
   rw [AV.free] at hy
   split at hy
   · rename_i a ha
     cases hy
     obtain ⟨l1, l2⟩ := freeL_get ha
     refine .agg (h1.trans l1.symm) h2 (fun i u c hu hc => ?_)
     obtain ⟨x, hx, hf⟩ := l2 i c hc; exact ih i u x hu hx hf
   · cases hy
 | tup h1 _ ih =>
   intro y hy
   rw [AV.free] at hy
   split at hy
   · rename_i a ha
     cases hy
     obtain ⟨l1, l2⟩ := freeL_get ha
     refine .tup (h1.trans l1.symm) (fun i u c hu hc => ?_)
     obtain ⟨x, hx, hf⟩ := l2 i c hc; exact ih i u x hu hx hf
   · cases hy
theorem FnRuns.frame {LL : Nat → Code → CC → Prop} {P : Program} {f : FuncId} {xs xs' : List AV} {d : AV} {s' : List AObj} (h : FnRuns LL P f xs' [] d s') (hx : freeL xs = some xs') (s : List AObj) : FnRuns LL P f xs s (d.shift s.length) (s ++ s'.map (AObj.shift s.length)) := by
 refine ⟨h.enters, fun B k w vs hst hvs => ?_⟩
 obtain ⟨l1, l2⟩ := freeL_get hx
 have hst0 : St LL w.heap.size ⟨k.I, []⟩ [] w := ⟨Nat.le_refl _, rfl, by simp, by simp, by simp⟩
 refine Calls.mono (h.calls w.heap.size ⟨k.I, []⟩ w vs hst0 ⟨hvs.1.trans l1.symm, fun i u c hu hc => ?_⟩) ?_
 · obtain ⟨x, hx1, hx2⟩ := l2 i c hc
   exact (hvs.2 i u x hu hx1).free [] hx2
 · rintro e w' ⟨v, k', rfl, hv, he, hs⟩
   have hm1 : Mono k w ⟨k'.I, k.own⟩ w' := ⟨he.keep, fun id o ho => ⟨o, ho, OwnLe.refl o⟩⟩
   have st1 : St LL B ⟨k'.I, k.own⟩ s w' := hst.same hm1 he.below.size rfl fun b hu => by
     have hlt := (hst.owned hu).2
     exact ⟨he.below.block b hlt, he.low b hlt⟩
   have hm2 : Mono ⟨k'.I, k.own⟩ w' ⟨k'.I, k.own ++ k'.own⟩ w' := ⟨KeepI.refl _ _, fun id o ho => ⟨o, by
     have hlt := (List.getElem?_eq_some_iff.1 ho).1
     rw [List.getElem?_append_left hlt]; exact ho, OwnLe.refl o⟩⟩
   have st := St.append (o2 := k'.own) st1 hs hst.base (fun id o b ho hb => (hst.lies id o b ho hb).2) hm2 fun x o hxo => hxo.same hm2 fun b _ => ⟨rfl, rfl⟩
   refine ⟨v, ⟨k'.I, k.own ++ k'.own⟩, rfl, ?_, ?_, st⟩
   · have := hv.shift k.own
     rw [hst.len] at this
     exact this
   · refine { toMono := hm1.trans hm2, below := he.below.mono hst.base, low := fun b hb => he.low b (Nat.lt_of_lt_of_le hb hst.base), rest := fun b hb _ => he.below.block b hb, fresh := fun id o b ho hob hb => ?_ }
     have ho' : (k.own ++ k'.own)[id]? = some o := ho
     rw [List.getElem?_append] at ho'
     split at ho'
     · exact ⟨o, ho', hob⟩
     · have := (hs.lies _ o b ho' hob).1
       omega
end Go.Bb
