/-
  Part Q1 of this claim's proof. Joined by merge.py from the texts of wip/tpl.
-/
import Derived.OrdersIn
import Derived.Test.YtclholnhkhjjaaaGreatOrd
set_option linter.unusedVariables false
set_option linter.unusedSimpArgs false
set_option linter.unnecessarySimpa false
namespace Go.Proofs.Lg
open Go Go.RowKit

def noDefer (l : List Oper) : Bool := l.all fun o => match o.op with | .defer _ => false | _ => true

theorem opIn_of_wp {P : Program} {l n : Nat} {o : Oper} {a : Act} {w : World} {K : Act → World → Prop} {Q : Exit → Act → World → Prop} (hd : ∀ c, o.op ≠ .defer c) (h : o.wp P a w K Q) :
    o.wpIn (Fence.wide.inRound l) n P a w K Q := by
  refine ⟨fun _ _ => trivial, ?_⟩
  rw [Oper.semAt_eq _ _ _ hd]
  unfold Oper.wp at h
  generalize (execOp a.eval o).run P w = r at *
  cases r with
  | ok x w' =>
    cases x <;> simp only [Oper.upon] at h <;> simp only [Oper.uponIn]
    case value v => exact h
    case skip => exact h
    case defer d => exact h
    case enter f args => exact ⟨fun h0 => (by cases h0), (callsIn_wide (n := n - 1)).2 h⟩
    case row row args => exact ⟨fun h0 => (by cases h0), fun c cs _ => let ⟨v, w', r, s⟩ := h c cs; ⟨v, w', r, stepsIn_wide.2 s⟩⟩
  | halt x w' => cases x <;> simp only [Oper.upon] at h <;> simp only [Oper.uponIn] <;> exact h

theorem wpAnyIn_of_any {P : Program} {l n : Nat} {ops : Array Oper} {Q : Exit → Act → World → Prop} (hlo : ¬ LetsOut Q) (hd : ∀ (i : Nat) (o : Oper) c, ops[i]? = some o → o.op ≠ .defer c) :
    ∀ (f : Nat) (listed : Array Bool) (a : Act) (w : World), wpAny P .any ops Q f listed a w → wpAnyIn (Fence.wide.inRound l) n P .any ops Q f listed a w
  | 0, _, _, _, h => h
  | f + 1, listed, a, w, h => by
    refine ⟨h.1, fun i hi => ?_⟩
    have h2 := h.2 i hi
    unfold wpOp at h2
    unfold wpOpIn
    cases ho : ops[i]? with
    | none =>
      simp only [ho] at h2
      exact wpAnyIn_of_any hlo hd f _ _ _ h2
    | some o =>
      simp only [ho] at h2
      dsimp only
      split
      · rename_i hw
        rw [if_pos hw] at h2
        rcases h2 with h2 | h2
        · exact Oper.wpIn_mono (fun a w h => wpAnyIn_of_any hlo hd f _ a w h) (opIn_of_wp (fun c => hd i o c ho) h2)
        · exact absurd h2.2 hlo
      · rename_i hw
        rw [if_neg hw] at h2
        exact ⟨fun _ _ => trivial, wpAnyIn_of_any hlo hd f _ _ _ h2⟩

theorem wpIn_region_ord {P : Program} {lp n : Nat} {Q : Exit → Act → World → Prop} {id : Nat} {a : Act} {w : World} {l : List Oper} (C : World → Prop) (ex : Nat) (ord : List (Nat × Bool)) (hm : P.follows .mixedOrders = true)
    (hlo : ¬ LetsOut Q) (hnd : noDefer l = true)
    (hB : (Region.noSelect l.toArray && decide (ord.length = l.length) && ordB l.toArray ex ord (Array.replicate l.length false)) = true) (hC : C w.drew)
    (h : wpOrd P l.toArray Q C ex ord a w.drew) : (Code.region id l.toArray true).wpIn (Fence.wide.inRound lp) n P Q a w := by
  simp only [Bool.and_eq_true, decide_eq_true_eq] at hB
  obtain ⟨⟨hs, hn⟩, hB⟩ := hB
  refine wpIn_region_any hm (wpAnyIn_of_any hlo (fun i o c ho hc => ?_) _ _ _ _ (wpAny_of_E (C := C) (ex := ex) _ _ _ _ ?_))
  · have := List.all_eq_true.1 hnd o (by rw [List.getElem?_toArray] at ho; exact List.mem_of_getElem? ho)
    rw [hc] at this
    cases this
  · have := wpE_ord hs ord _ a w.drew hB (.inr hC) h
    rw [hn] at this
    simpa using this
end Go.Proofs.Lg
