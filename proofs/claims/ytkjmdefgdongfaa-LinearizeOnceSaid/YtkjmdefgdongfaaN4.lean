/-
  LinearizeOnce holds: for every graph that can be read as data the Go function returns true, and the argument reads as it did. Conditions: none beyond the statement's own.
-/
import Derived.Test.YtkjmdefgdongfaaF2
import Derived.Test.YtkjmdefgdongfaaN3
namespace Go.Proofs.Ytkjmdefgdongfaa
open Go.ChangeShapes Go.WideShapes Go.ChangeAt Go.RowKit Go.Proofs.Lg

def OnceWalk : Prop := ∀ (vl ve : Value) (g : Gr) (w : World), GrIn w vl ve g → Calls Try.prog 6 #[.agg #[vl, ve]] w fun e w' => e = .returned (.bool true) ∧ Below w.heap.size w w'

set_option maxRecDepth 100000 in
theorem linearizeOnce_lifted (walk : OnceWalk) (os : Os) (started : os.Started) (H : Type) (enc : TypeId × Value → H) :
    ReturnsInHanded {} Try.checked os 6 .any (Rows.linearizeOnceSpec.pre6 enc Try.prog Try.f6 Rows.linearizeOnceRow.domain false) (Rows.linearizeOnceSpec.post enc Try.prog Try.f6 false true false false) := by
  refine returnsInHanded_of_change (C := Try.checked) own started (by kernel_rfl) Try.func6
    (ChangeSpec.witness6 (enc := enc) (C := Try.checked) false ⟨#[], #[.agg #[.slice none 0 0, .slice none 0 0]], []⟩ 8 (by kernel_rfl) (by kernel_rfl) (by kernel_rfl) (by kernel_rfl)) ?_
  intro W base args ds gs before hval0 hW hcnd _
  have hval : ∀ (j : Nat) t v, Try.f6.params[j]? = some t → args[j]? = some v → Value.okWide Try.prog W .any base t v := hval0
  have hW' := hW
  obtain ⟨p, q, hA0, hV, rfl, hfz, hnd⟩ := hW
  have hA : DataW.TrodAll enc Try.prog W 0 (fun _ => true) true Try.f6.params.toList args.toList ds p := hA0
  rw [Try.params6] at hA hval
  obtain ⟨v0, vs0, d0, ds0, p0, q0, hargs, rfl, rfl, h0, r0⟩ := trodAll_cons hA
  obtain ⟨rfl, rfl, rfl⟩ := trodAll_nil r0
  obtain rfl : args = #[v0] := by cases args; simp_all
  obtain ⟨rfl, rfl⟩ := trodVars_none hV
  have k0 := h0
  have lt0 : ∀ x ∈ p0, x.block < W.heap.size := by obtain ⟨m, hm⟩ := k0; exact DataW.trod_lt m _ _ _ hm
  obtain ⟨vl, ve, g, rfl, hg⟩ := graph_open (hval 0 25 v0 rfl rfl) h0
  clear hA0 hval0
  refine (walk vl ve g W hg).mono fun e W' ⟨he, bel⟩ => ?_
  subst he
  exact ⟨_, rfl, _, _, _, [], _, [], hW', trodAll_mk1 (shut_bool Try.underlying4 _), (trodAll_cons_mk (Below.trod laidOut (by kernel_rfl) (of_decide_eq_true (by kernel_rfl)) k0 bel lt0) trodAll_mk0), rfl, bel.frame _, fun h => by cases h⟩

theorem linearizeOnce_over (walk : OnceWalk) : Rows.linearizeOnceRow.holds Try.pinned (OpenSpec.ofChange Rows.linearizeOnceSpec) :=
  OpenClaim.holds_of_wide 6 Try.f6 rfl rfl rfl rfl rfl rfl rfl ⟨rfl, rfl, rfl, rfl, rfl⟩ rfl rfl rfl rfl rfl (by kernel_rfl) Try.func6 (by kernel_rfl)
    (of_decide_eq_true (by kernel_rfl)) (by unfold Func.isWrapper; first | (rw [if_pos (by decide +kernel)]; kernel_rfl) | (rw [if_neg (by decide +kernel)]; exact ⟨rfl, rfl⟩))
    (fun os started H enc _ => linearizeOnce_lifted walk os started H enc)
theorem linearizeOnce_holds : Rows.LinearizeOnceSaid := linearizeOnce_over fun vl ve g w hg => Go.Proofs.Lg.once_walk vl ve g w hg
#print axioms linearizeOnce_holds
end Go.Proofs.Ytkjmdefgdongfaa
