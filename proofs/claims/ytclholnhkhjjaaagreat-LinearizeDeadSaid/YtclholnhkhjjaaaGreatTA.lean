/-
  Part TA of this claim's proof. Joined by merge.py from the texts of wip/tpl.
-/
import Derived.Test.YtclholnhkhjjaaaGreatR2
import Derived.WalkKit
import Derived.OwnWalkIn
import Derived.TacticsInMore
import Derived.LoopNIn
import Derived.LoopIn
import Derived.Maps.AppendAt
import Derived.Maps.OwnIn
set_option linter.unusedVariables false
set_option linter.unusedSimpArgs false
set_option linter.unnecessarySimpa false
namespace Go.Proofs.Lg
open Go Go.RowKit Go.Shelf

def SeqTold {α : Type} (F : Fence) (n : Nat) (P : Program) (g : Nat) (lb : Array Value) (encs : α → Array Value) (T : α → World → Prop) (Kp : World → World → Prop) (S : List α → Prop) (N : Nat) (w : World) : Prop :=
  ∀ (l : Nat) (J : List α → World → Prop) (W : World), Below w.heap.size w W → (∀ xs A B, J xs A → Below A.heap.size A B → J xs B) →
    (∀ pre x W1, J pre W1 → pre.length < N → T x W1 → YieldAt F (n - 1) P l (encs x) W1 fun e W' => e = .returned (.bool true) ∧ J (pre ++ [x]) W' ∧ Kp W1 W') →
    J [] W → CallsIn F n P g (#[.func (.yield l) #[] #[]] ++ lb) W fun e W' => (∃ v, e = .returned v) ∧ ∃ xs, S xs ∧ J xs W'

/-- What holds abides the turn of a block that is no cells and lies at B or beyond. -/
def Steady (B : Nat) (I : World → Prop) : Prop := ∀ (A : World) (l : Nat) (o o' : Obj), B ≤ l → A.heap[l]? = some o → o.isCells = false → o.isWalk = false → I A → I (A.putObj l o')

theorem wpIn_rangeFunc_told {α : Type} {F : Fence} {n : Nat} {P : Program} {g : Operand} {ps : Array Tmp} {assign body : Code} {Q : Exit → Act → World → Prop} {a : Act} {w : World}
    (hro : F.round = none) (h1 : 1 ≤ n) {gf : Nat} {lb : Array Value} (hg : a.eval g = .func (.func gf) #[] lb) (hFg : F.fn gf) (eg : ∀ args w, (callFunc gf args).run P w = .ok (.enter gf args) w)
    {encs : α → Array Value} {T : α → World → Prop} {Kp : World → World → Prop} {S : List α → Prop} {N : Nat} {w0 : World} (hseq : SeqTold F (n - 1) P gf lb encs T Kp S N w0) (hb0 : Below w0.heap.size w0 w) (hps : ∀ x, (encs x).size = ps.size)
    (I : List α → World → Prop) (hIb : ∀ xs A B, I xs A → Below A.heap.size A B → I xs B) (hIl : ∀ xs, Steady w.heap.size (I xs)) (hTl : ∀ x, Steady w.heap.size (T x)) (hKt : ∀ {A B C : World}, Kp A B → Kp B C → Kp A C) (hKl : ∀ A, Steady w.heap.size (Kp A)) (hKr : ∀ A, Kp A A)
    (h0 : I [] w) (Ax : α → Act → World → Prop) (hAl : ∀ x a', Steady w.heap.size (Ax x a'))
    (hassign : ∀ (l : Nat) (pre : List α) (x : α) (W : World) (K : Act → World → Prop), I pre W → T x W → (∀ a' W', KeepsFrom w.heap.size W W' → Kp W W' → I pre W' → T x W' → Ax x a' W' → K a' W') →
      assign.wpIn (F.inRound l) (n - 1 - 1) P (Exit.then K (fun _ _ _ => False)) { tmps := (ps.zip (encs x)).foldl (fun t (p, v) => t.setIfInBounds p v) a.tmps, defers := [] } W)
    (hbody : ∀ (l : Nat) (pre : List α) (x : α) (a' : Act) (W : World), I pre W → T x W → Ax x a' W → pre.length < N →
      body.wpIn (F.inRound l) (n - 1 - 1) P (Exit.then (fun _ W' => KeepsFrom w.heap.size W W' ∧ Kp W W' ∧ I (pre ++ [x]) W') (fun _ _ _ => False)) a' W)
    (hdone : ∀ (D : Nat) (xs : List α) (W : World), w.heap.size ≤ D → S xs → I xs W → W.heap[D]? = some (.deferred (some [])) → Q .normal { a with defers := { target := .collected D, args := #[] } :: a.defers } W) :
    (Code.rangeFunc g ps assign body).wpIn F n P Q a w := by
  refine wpIn_rangeFunc fun fn hfn => ?_
  rw [hro]
  have hrec : ∃ rec : LoopState → Option Code → Loop, rec = fun st pe => { state := st, pending := pe, fn, tmps := a.tmps, params := ps, assign, body, defers := w.heap.size } := ⟨_, rfl⟩
  obtain ⟨rec, hrec⟩ := hrec
  have hwd : Below w.heap.size w ((w.alloc (.deferred (some []))).alloc (.loop (rec .ready none))) := ((Below.refl _ w).alloc (Nat.le_refl _) _).alloc (by simp) _
  have hL : ((w.alloc (.deferred (some []))).alloc (.loop (rec .ready none))).heap[w.heap.size + 1]? = some (.loop (rec .ready none)) := by
    have := World.alloc_heap_new (w.alloc (.deferred (some []))) (.loop (rec .ready none)); rwa [World.size_alloc] at this
  have hD : ((w.alloc (.deferred (some []))).alloc (.loop (rec .ready none))).heap[w.heap.size]? = some (.deferred (some [])) :=
    (Below.heap_alloc _ _ _ (by simp)).trans (World.alloc_heap_new w _)
  have hent := run_enterLoop_outer (P := P) (w := w) fn a.tmps ps assign body
  rw [show ({ state := .ready, pending := none, fn, tmps := a.tmps, params := ps, assign, body, defers := w.heap.size } : Loop) = rec .ready none by rw [hrec]] at hent
  generalize (w.alloc (.deferred (some []))).alloc (.loop (rec .ready none)) = W1 at hwd hL hD hent
  refine ⟨w.heap.size + 1, [{ target := .collected w.heap.size, args := #[] }], W1, { target := .fn (.func gf) lb, args := #[.func (.yield (w.heap.size + 1)) #[] #[]] }, W1, gf,
    #[.func (.yield (w.heap.size + 1)) #[] #[]] ++ lb, W1, hent, ?_, ?_, ?_, fun _ => h1, ?_⟩
  · simp only [resolve, hg]
    simp [go_sem]
  · intro f' hf'; simp [Target.leads] at hf'; subst hf'; exact hFg
  · simp [invoke, go_sem, eg]
  refine (hseq (w.heap.size + 1) (fun pre W => I pre W ∧ W.heap[w.heap.size + 1]? = some (.loop (rec .ready none)) ∧ W.heap[w.heap.size]? = some (.deferred (some []))) W1 (hb0.trans (hwd.mono hb0.size))
    (fun xs A B h hB => ⟨hIb xs A B h.1 hB, (hB.block _ (Array.getElem?_eq_some_iff.1 h.2.1).1).trans h.2.1, (hB.block _ (Array.getElem?_eq_some_iff.1 h.2.2).1).trans h.2.2⟩) ?_ ⟨hIb _ _ _ h0 hwd, hL, hD⟩).mono ?_
  · rintro pre x W ⟨hi, hl, hk⟩ hlen hT
    have hy := run_yield (P := P) (args := encs x) hl (by rw [hrec]; exact hps x)
    rw [hrec] at hy
    refine ⟨fn, _, assign, body, hy, roundIn_of_wpIn hfn (hassign _ pre x W _ hi hT fun a' Wa hkf hkp hia hTa hax => ?_)⟩
    have hla := hkf.same _ _ (Nat.le_succ _) hl rfl
    have hka := hkf.same _ _ (Nat.le_refl _) hk rfl
    have hlt : w.heap.size + 1 < Wa.heap.size := (Array.getElem?_eq_some_iff.1 hla).1
    refine ⟨_, run_beginRound hla (by rw [hrec]), ?_⟩
    have hl2 : (Wa.putObj (w.heap.size + 1) (.loop { rec .ready none with state := .busy })).heap[w.heap.size + 1]? = some (.loop { rec .ready none with state := .busy }) := World.putObj_heap_same hlt
    have hk2 : (Wa.putObj (w.heap.size + 1) (.loop { rec .ready none with state := .busy })).heap[w.heap.size]? = some (.deferred (some [])) := (World.putObj_heap_other (by omega)).trans hka
    refine wpIn_mono (hbody _ pre x a' _ (hIl _ _ _ _ _ (Nat.le_succ _) hla rfl rfl hia) (hTl _ _ _ _ _ (Nat.le_succ _) hla rfl rfl hTa) (hAl _ _ _ _ _ _ (Nat.le_succ _) hla rfl rfl hax) hlen) ?_
    rintro e a3 W3 hp
    cases e with
    | normal =>
      obtain ⟨hk3, hkp3, hi3⟩ := hp
      have hl3 := hk3.same _ _ (Nat.le_succ _) hl2 rfl
      have hd3 := hk3.same _ _ (Nat.le_refl _) hk2 rfl
      have hend := run_endRound (P := P) none hl3
      have e : ({ ({ rec .ready none with state := .busy } : Loop) with state := if (none : Option Code).isNone then .ready else .done, pending := none } : Loop) = rec .ready none := by rw [hrec]; rfl
      rw [e] at hend
      have hlt3 : w.heap.size + 1 < W3.heap.size := (Array.getElem?_eq_some_iff.1 hl3).1
      exact ⟨_, _, hend, rfl, ⟨hIl _ _ _ _ _ (Nat.le_succ _) hl3 rfl rfl hi3, World.putObj_heap_same hlt3, (World.putObj_heap_other (by omega)).trans hd3⟩,
        hKt hkp (hKt (hKl Wa Wa _ _ _ (Nat.le_succ _) hla rfl rfl (hKr Wa)) (hKt hkp3 (hKl W3 W3 _ _ _ (Nat.le_succ _) hl3 rfl rfl (hKr W3))))⟩
    | ret => exact hp.elim
    | exit id => exact hp.elim
    | goto t => exact hp.elim
    | panic ch => exact hp.elim
    | outgrown => exact hp.elim
  · rintro e W2 ⟨⟨v, rfl⟩, xs, hS, hi, hl, hk⟩
    exact ⟨none, _, by have := run_endLoop (P := P) hl (by rw [hrec]; simp); rw [hrec] at this; exact this, hdone _ xs _ (Nat.le_refl _) hS (hIl _ _ _ _ _ (Nat.le_succ _) hl rfl rfl hi) ((World.putObj_heap_other (by omega)).trans hk)⟩
end Go.Proofs.Lg

namespace Go.Proofs.Lg
open Go Go.RowKit Go.Shelf Go.Maps

attribute [local go_sem] Oper.semAt_some

def regCells : Value → List Value
  | .agg a => a.toList
  | _ => []

theorem KeepsK.putObj {A : World} {l : Nat} {o o' : Obj} (h : A.heap[l]? = some o) (h1 : o.isCells = false) (h2 : o.isWalk = false) : KeepsK A (A.putObj l o') :=
  KeepsK.of_grown (grownBy_putObj' A l o') (fun r o1 e hr hp => by
    cases e
    rw [h] at hr
    cases hr
    cases o <;> simp_all [PlainObj, Obj.isCells, Obj.isWalk])
theorem steady_keepsR {n₀ B B' : Nat} (hn : n₀ ≤ B') (hB : B < B') (A : World) : Steady B' (KeepsR n₀ B A) := fun _ _ _ _ hl h h1 h2 hk =>
  hk.trans (KeepsR.putObj (Nat.le_trans hn hl) (by omega) h h1 h2)
theorem steady_regAt {B : Nat} (v : Value) (r : Reg) : Steady B (fun W => RegAt W v r) := fun _ _ _ _ _ h h1 h2 hk => hk.keepsK (KeepsK.putObj h h1 h2)

theorem steady_regOk {B : Nat} (v : Value) (r : Reg) : Steady B (fun W => RegOk W v r) := fun W l o o' hl h h1 h2 hk => ⟨steady_regAt (B := B) v r W l o o' hl h h1 h2 hk.1, hk.2⟩
theorem RegOk.below {W W' : World} {v : Value} {r : Reg} (h : RegOk W v r) (hb : Below W.heap.size W W') : RegOk W' v r := ⟨h.1.below hb, h.2⟩

/-- The box of the collected regions, its row, and each region in memory. -/
def RegsAt (w0 : World) (B : Nat) (xs : List (Value × Reg)) (W : World) : Prop :=
  (∃ v, Boxed W B 32 v ∧ W.ownsRow w0.heap.size 45 3 v xs.length (xs.flatMap fun x => regCells x.1)) ∧ (∀ x ∈ xs, RegAt W x.1 x.2) ∧ Below w0.heap.size w0 W

theorem steady_regsAt (w0 : World) (B B' : Nat) (hB : w0.heap.size ≤ B') (xs : List (Value × Reg)) : Steady B' (RegsAt w0 B xs) := fun W l o o' hl h h1 h2 hk => by
  obtain ⟨⟨v, hv, hrow⟩, hr, hb⟩ := hk
  have hlt := (Array.getElem?_eq_some_iff.1 h).1
  refine ⟨⟨v, ?_, ownsRow_putObj hrow o' h h1⟩, fun x hx => steady_regAt (B := B') _ _ W l o o' hl h h1 h2 (hr x hx), hb.grown (grownBy_putObj' W l o') hb.size (fun k e => by cases e; omega)⟩
  refine hv.kept (grownBy_putObj' W l o') (fun e => ?_)
  obtain rfl := Option.some.inj e
  rw [show W.heap[B]? = _ from hv] at h
  cases h
  simp [Obj.isCells] at h1

theorem regsAt_below {w0 : World} {B : Nat} {xs : List (Value × Reg)} {A C : World} (h : RegsAt w0 B xs A) (hb : Below A.heap.size A C) : RegsAt w0 B xs C := by
  obtain ⟨⟨v, hv, hrow⟩, hr, hb0⟩ := h
  refine ⟨⟨v, (hb.block _ hv.lt).trans hv, ?_⟩, fun x hx => (hr x hx).below hb, hb0.trans (hb.mono hb0.size)⟩
  refine ⟨hrow.1, ?_⟩
  rcases hrow.2 with h2 | ⟨g, cap, cur, hv', hbg, hg, h3⟩
  · exact .inl h2
  · exact .inr ⟨g, cap, cur, hv', hbg, (hb.block _ (Array.getElem?_eq_some_iff.1 hg).1).trans hg, h3⟩

theorem info_Region : (Tryz.prog.info? 45).map (fun i => (i.zero, i.size, i.bytes)) = some (some (.agg #[.bool false, .slice none 0 0, .slice none 0 0]), 3, 56) := by kernel_rfl

set_option maxRecDepth 100000 in
set_option maxHeartbeats 4000000 in
theorem appendSeqRegion_in (F : Fence) (n : Nat) (gf : Nat) (lb : Array Value) (h3 : F.fn 81) (hgf : F.fn gf) (hro : F.round = none) (hn : 3 ≤ n) (spec : List Reg) (N : Nat) (hN : N ≤ 2000010) (w : World)
    (eg : ∀ args w, (callFunc gf args).run Tryz.prog w = .ok (.enter gf args) w)
    (hseq : SeqTold F (n - 1) Tryz.prog gf lb (fun x : Value × Reg => #[x.1]) (fun x W => RegOk W x.1 x.2) (KeepsR w.heap.size w.heap.size) (fun xs => xs.map (·.2) = spec) N (w.alloc (.cells #[.slice none 0 0] 32))) :
    CallsIn F n Tryz.prog 81 #[.slice none 0 0, .func (.func gf) #[] lb] w fun e W' => ∃ v, e = .returned v ∧ ∃ xs : List (Value × Reg), xs.map (·.2) = spec ∧ W'.ownsRow w.heap.size 45 3 v xs.length (xs.flatMap fun x => regCells x.1) ∧ (∀ x ∈ xs, RegAt W' x.1 x.2) ∧ Below w.heap.size w W' := by
  have h1 : 1 ≤ n := by omega
  obtain ⟨i0, hi, hz0, hz1, hz2⟩ := info_parts info_Region
  refine callsIn_of_wp_marks Tryz.func81 rfl h3 ?_ hro
  simp only [Tryz.ntmps81, List.size_toArray, List.length_cons, List.length_nil, Nat.reduceAdd, Nat.reduceSub, Array.replicate_succ, Array.replicate_zero, List.push_toArray, List.append_toArray, List.nil_append, List.cons_append]
  gi_wp2
  have bO := Boxed.new w 32 (.slice none 0 0)
  have hB0 : Below w.heap.size w (w.alloc (.cells #[.slice none 0 0] 32)) := (Below.refl _ w).alloc (Nat.le_refl _) _
  refine wpIn_rangeFunc_told hro h1 (gf := gf) (lb := lb) rfl hgf eg hseq (Below.refl _ _) (fun _ => rfl)
    (fun xs W => RegsAt w w.heap.size xs W) (fun xs A B h hb => regsAt_below h hb) (fun xs => steady_regsAt w _ _ (by simp) xs) (fun x => steady_regOk _ _) KeepsR.trans (fun A => steady_keepsR (by simp) (by simp) A) (KeepsR.refl _ _)
    ⟨⟨_, bO, World.ownsRow_nil _ _ _ _⟩, (fun x hx => by cases hx), hB0⟩
    (fun x a' W => ∃ Bx, W.heap[Bx]? = some (.cells (regCells x.1).toArray 45 (0, 0)) ∧ a' = { tmps := #[.slice none 0 0, .func (.func gf) #[] lb, .pointer (some ⟨w.heap.size, 0, none⟩), undef, .slice none 0 0, .pointer (some ⟨Bx, 0, none⟩), .func (.func gf) #[] lb, x.1, undef, undef, undef, undef, undef], defers := [] })
    (fun x a' A l o o' hl h h1 h2 ⟨Bx, hb, ha⟩ => ⟨Bx, by rw [World.putObj_heap_other (by rintro rfl; rw [hb] at h; cases h; simp [Obj.isCells] at h1)]; exact hb, ha⟩) ?assign ?body ?done
  case assign =>
    rintro l pre ⟨x, r⟩ W K hI hT hK
    obtain ⟨vl, vs, us, hx, k1, k2, k3⟩ := hT.1
    dsimp only at hx
    obtain ⟨a1, c1, hv1⟩ := ownsRow_form k1
    obtain ⟨a2, c2, hv2⟩ := ownsRow_form k2
    dsimp only at hv1
    clear k1 k2 k3
    obtain ⟨cb, hcb⟩ : ∃ cb, r.conflict = cb := ⟨_, rfl⟩
    obtain ⟨nl, hnl⟩ : ∃ nl, r.lines.length = nl := ⟨_, rfl⟩
    rw [hnl] at hv1
    rw [hv1, hv2, hcb] at hx
    have HI := Lib.hid hI
    have HT := Lib.hid hT
    clear hI hT hv1 hv2 hcb hnl
    subst hx
    gi_wp2
    have hba : Below W.heap.size W (W.alloc (.cells #[.bool cb, .slice a1 nl c1, .slice a2 us.length c2] 45)) := (Below.refl _ _).alloc (Nat.le_refl _) _
    exact hK _ _ ((KeepsOthers.alloc _ _).from _) (KeepsR.of_below HI.out.2.2.size (HI.out.1.elim fun _ h => h.1.lt) hba) (regsAt_below HI.out hba) (HT.out.below hba) ⟨W.heap.size, World.alloc_heap_new W _, rfl⟩
  case body =>
    rintro l pre ⟨x, r⟩ a' W hI hT ⟨Bx, hbx, rfl⟩ hlt
    obtain ⟨vl, vs, us, hx, k1, k2, k3⟩ := hT.1
    dsimp only at hx
    obtain ⟨a1, c1, hv1⟩ := ownsRow_form k1
    obtain ⟨a2, c2, hv2⟩ := ownsRow_form k2
    dsimp only at hv1
    clear k1 k2 k3
    obtain ⟨cb, hcb⟩ : ∃ cb, r.conflict = cb := ⟨_, rfl⟩
    obtain ⟨nl, hnl⟩ : ∃ nl, r.lines.length = nl := ⟨_, rfl⟩
    rw [hnl] at hv1
    rw [hv1, hv2, hcb] at hx
    clear hv1 hv2 hcb hnl
    subst hx
    have q0 : W.cell? ⟨Bx, 0, none⟩ = some (.bool cb) := by rw [cell_of_heap hbx]; rfl
    have q1 : W.cell? ⟨Bx, 1, none⟩ = some (.slice a1 nl c1) := by rw [cell_of_heap hbx]; rfl
    have q2 : W.cell? ⟨Bx, 2, none⟩ = some (.slice a2 us.length c2) := by rw [cell_of_heap hbx]; rfl
    have hbxl := cell_lt q0
    obtain ⟨⟨v, hv, hrow⟩, hr, hB⟩ := hI
    have hc := hv.cell
    have hlv := hv.lt
    have hnews : ∀ j u, [Value.bool cb, .slice a1 nl c1, .slice a2 us.length c2][j]? = some u → (W.alloc (.cells #[.bool cb, .slice a1 nl c1, .slice a2 us.length c2] 45)).cell? (Addr.add ⟨W.heap.size, 0, none⟩ j) = some u := by
      intro j u hu
      rw [Addr.add_mid, Nat.zero_add]
      match j, hu with
      | 0, hu => simp at hu; subst hu; simp [go_sem]
      | 1, hu => simp at hu; subst hu; simp [go_sem]
      | 2, hu => simp at hu; subst hu; simp [go_sem]
      | j + 3, hu => simp at hu
    have HT := Lib.hid hT
    have HR := Lib.hid hr
    have HNW := Lib.hid hnews
    have hlt' : pre.length < N := hlt
    clear hT hr hbx hnews
    gi_wp2_with (gi_at_builtin; refine wpListIn_append_own_at _ rfl _ _ 32 rfl w.heap.size 45 i0 (.agg #[.bool false, .slice none 0 0, .slice none 0 0]) 3 56 Tryz.underlying32 hi hz0 hz1 hz2 rfl (by decide) _ _ _ rfl (hrow.alloc _) ⟨W.heap.size, 0, none⟩ 1 1 [.bool cb, .slice a1 nl c1, .slice a2 us.length c2] rfl rfl HNW.out (by simp [Value.oneCell']) (by unfold maxLen; omega) (by omega) (by have := hB.size; simp; omega) ?_; intro v' w1 hown' hgrow _ hloc; obtain ⟨g', cap', rfl⟩ := ownsRow_succ hown'; obtain ⟨hv1, hv2, hr2, hk2, hb2⟩ := hv.appended (by decide) hrow hB.size (Nat.le_refl _) hown' hgrow; have hc1 := hv1.cell; have hf1 := hv1.frozen)
    have hgrow2 : (W.alloc (.cells #[.bool cb, .slice a1 nl c1, .slice a2 us.length c2] 45)).grownBy w1 v.ownBlock := hgrow
    have hkk : KeepsK W (w1.setCell ⟨w.heap.size, 0, none⟩ (.slice (some ⟨g', 0, none⟩) (pre.length + 1) cap')) := by
      refine (KeepsK.of_below ((Below.refl _ _).alloc (Nat.le_refl _) (.cells #[.bool cb, .slice a1 nl c1, .slice a2 us.length c2] 45))).trans ((KeepsK.of_grown hgrow2 fun r o e hr hp => ?_).trans (KeepsK.of_grown (grownBy_setCell' w1 w.heap.size _) fun r o e hr hp => ?_))
      · rcases (hrow.alloc (.cells #[.bool cb, .slice a1 nl c1, .slice a2 us.length c2] 45)).2 with ⟨rfl, _⟩ | ⟨g, cap, cur, rfl, _, hgb, _⟩
        · simp [Value.ownBlock] at e
        · obtain rfl : g = r := by simpa [Value.ownBlock] using e
          rw [hgb] at hr
          cases hr
          exact absurd rfl hp.1
      · obtain rfl := Option.some.inj e
        rw [show w1.heap[w.heap.size]? = _ from hv1] at hr
        cases hr
        exact absurd rfl hp.2
    have hkr : KeepsR w.heap.size w.heap.size W (w1.setCell ⟨w.heap.size, 0, none⟩ (.slice (some ⟨g', 0, none⟩) (pre.length + 1) cap')) :=
      KeepsR.appended hv hB.size (hv.not_row (by decide) hrow) (grownBy_trans' (World.grownBy_alloc _ _ _) hgrow2) (hloc.imp id fun h g e => by rw [h] at e; have := Option.some.inj e; simp at this; omega)
    refine ⟨hk2.from _, hkr, ⟨_, hv2, by simpa [regCells] using hr2⟩, fun y hy => ?_, hB.trans hb2⟩
    rcases List.mem_append.1 hy with h | h
    · exact (HR.out y h).keepsK hkk
    · obtain rfl := List.mem_singleton.1 h
      exact HT.out.1.keepsK hkk
  case done =>
    rintro D ys W hD hS ⟨⟨v, hv, hrow⟩, hr, hB⟩ hK
    have hc := hv.cell
    gi_wp2
    refine ⟨by simp, .inl ⟨_, _, rfl, run_takeDeferred hK, ?_⟩⟩
    exact ⟨_, results_tmp rfl _ _ _, v, rfl, ys, hS, ownsRow_putObj hrow _ hK rfl, fun x hx => (hr x hx).keepsK (KeepsK.putObj hK rfl rfl), hB.trans (belowK_b (w := w) (Nat.le_refl _) W D _ _ (by simp at hD; omega) hK rfl rfl)⟩
end Go.Proofs.Lg
