/-
  LinearizeDead holds: for every graph that can be read as data, and every number at, the Go function returns true, and the arguments read as they did. Conditions: none beyond the statement's own.
-/
import Derived.Test.YtclholnhkhjjaaaGreatRows
import Derived.ShutString
import Derived.ChangeOld
import Derived.Below
import Derived.Test.YtclholnhkhjjaaaGreatF1
import Derived.Test.YtclholnhkhjjaaaGreatK13
set_option linter.unusedVariables false
set_option linter.unusedSimpArgs false
set_option linter.unnecessarySimpa false
namespace Go.Proofs.Lg
open Go Go.RowKit
theorem dead_walk (vl ve : Value) (g : Gr) (at' : Nat) (w : World) (hg : GrIn w vl ve g) (hat : at' < 256) :
    Calls Tryz.prog 4 #[.agg #[vl, ve], .int .u8 (at' : Nat)] w fun e w' => e = .returned (.bool true) ∧ Below w.heap.size w w' := by
  cases hf : g.fine with
  | false => exact dead_early vl ve g at' w hg hat (.inl hf)
  | true =>
    by_cases hl : g.lines = []
    · exact dead_early vl ve g at' w hg hat (.inr hl)
    · exact dead_late vl ve g at' w hg hat hf (List.length_pos_iff.2 hl)
end Go.Proofs.Lg

namespace Go.Proofs.YtclholnhkhjjaaaGreat
open Go.ChangeShapes Go.WideShapes Go.ChangeAt Go.RowKit Go.Proofs.Lg

theorem own : ownKnob Tryz.prog.godebug = none := by kernel_rfl
theorem laidOut : laidOutB Tryz.prog = true := by kernel_rfl

def DeadWalk : Prop := ∀ (vl ve : Value) (g : Gr) (at' : Nat) (w : World), GrIn w vl ve g → at' < 256 → Calls Tryz.prog 4 #[.agg #[vl, ve], .int .u8 (at' : Nat)] w fun e w' => e = .returned (.bool true) ∧ Below w.heap.size w w'

set_option maxRecDepth 100000 in
theorem linearizeDead_lifted (walk : DeadWalk) (os : Os) (started : os.Started) (H : Type) (enc : TypeId × Value → H) :
    ReturnsInHanded {} Tryz.checked os 4 .any (Rows.linearizeDeadSpec.pre6 enc Tryz.prog Tryz.f4 Rows.linearizeDeadRow.domain false) (Rows.linearizeDeadSpec.post enc Tryz.prog Tryz.f4 false true false false) := by
  refine returnsInHanded_of_change (C := Tryz.checked) own started (by kernel_rfl) Tryz.func4
    (ChangeSpec.witness6 (enc := enc) (C := Tryz.checked) false ⟨#[], #[.agg #[.slice none 0 0, .slice none 0 0], .int .u8 0], []⟩ 8 (by kernel_rfl) (by kernel_rfl) (by kernel_rfl) (by kernel_rfl)) ?_
  intro W base args ds gs before hval0 hW hcnd _
  have hval : ∀ (j : Nat) t v, Tryz.f4.params[j]? = some t → args[j]? = some v → Value.okWide Tryz.prog W .any base t v := hval0
  have hW' := hW
  obtain ⟨p, q, hA0, hV, rfl, hfz, hnd⟩ := hW
  have hA : DataW.TrodAll enc Tryz.prog W 0 (fun _ => true) true Tryz.f4.params.toList args.toList ds p := hA0
  rw [Tryz.params4] at hA hval
  obtain ⟨v0, vs0, d0, ds0, p0, q0, hargs, rfl, rfl, h0, r0⟩ := trodAll_cons hA
  obtain ⟨v1, vs1, d1, ds1, p1, q1, hargs1, rfl, rfl, h1, r1⟩ := trodAll_cons r0
  obtain ⟨rfl, rfl, rfl⟩ := trodAll_nil r1
  obtain rfl : args = #[v0, v1] := by cases args; simp_all
  obtain ⟨rfl, rfl⟩ := trodVars_none hV
  have k0 := h0
  have k1 := h1
  have lt0 : ∀ x ∈ p0, x.block < W.heap.size := by obtain ⟨m, hm⟩ := k0; exact DataW.trod_lt m _ _ _ hm
  have lt1 : ∀ x ∈ p1, x.block < W.heap.size := by obtain ⟨m, hm⟩ := k1; exact DataW.trod_lt m _ _ _ hm
  obtain ⟨vl, ve, g, rfl, hg⟩ := graph_open (hval 0 25 v0 rfl rfl) h0
  obtain ⟨n, rfl, rfl, hp1, hwf⟩ := open_int (k := .u8) (by kernel_rfl) (hval 1 _ v1 rfl rfl) h1
  have hn : 0 ≤ n ∧ n < 256 := by
    simp [Lit.wf, IntKind.min, IntKind.max, IntKind.bits, IntKind.signed] at hwf
    omega
  obtain ⟨a, rfl⟩ : ∃ a : Nat, n = (a : Int) := ⟨n.toNat, by omega⟩
  clear hA0 hval0
  refine (walk vl ve g a W hg (by omega)).mono fun e W' ⟨he, bel⟩ => ?_
  subst he
  exact ⟨_, rfl, _, _, _, [], _, [], hW', trodAll_mk1 (shut_bool Tryz.underlying4 _), (trodAll_cons_mk (Below.trod laidOut (by kernel_rfl) (of_decide_eq_true (by kernel_rfl)) k0 bel lt0) (trodAll_cons_mk (Below.trod laidOut (by kernel_rfl) (of_decide_eq_true (by kernel_rfl)) k1 bel lt1) trodAll_mk0)), rfl, bel.frame _, fun h => by cases h⟩

theorem linearizeDead_over (walk : DeadWalk) : Rows.linearizeDeadRow.holds Tryz.pinned (OpenSpec.ofChange Rows.linearizeDeadSpec) :=
  OpenClaim.holds_of_wide 4 Tryz.f4 rfl rfl rfl rfl rfl rfl rfl ⟨rfl, rfl, rfl, rfl, rfl⟩ rfl rfl rfl rfl rfl (by kernel_rfl) Tryz.func4 (by kernel_rfl)
    (of_decide_eq_true (by kernel_rfl)) (by unfold Func.isWrapper; first | (rw [if_pos (by decide +kernel)]; kernel_rfl) | (rw [if_neg (by decide +kernel)]; exact ⟨rfl, rfl⟩))
    (fun os started H enc _ => linearizeDead_lifted walk os started H enc)

theorem linearizeDead_holds : Rows.LinearizeDeadSaid := linearizeDead_over fun vl ve g a w hg ha => Go.Proofs.Lg.dead_walk vl ve g a w hg ha
#print axioms linearizeDead_holds
end Go.Proofs.YtclholnhkhjjaaaGreat
