/-
  LinegraphOrder holds: for every graph and every array of three bytes that can be read as data the Go function returns true, and the arguments read as they did. Conditions: those of the card: the laid variables are tied to the program's text.
-/
import Derived.Test.YtcegniopmpmpiaaGreatDoorTie
import Derived.Test.YtcegniopmpmpiaaGreatDoorCards
import Derived.ProofKit
import Derived.ShutString
import Derived.OpenShut
import Derived.LaidMore
import Derived.Lay
import Derived.SevenTiedAt
import Derived.Stop.Joined
import Derived.Laws.IdiomArrays
import Derived.ChangeOld
import Derived.Below
import Derived.Test.YtcegniopmpmpiaaGreatDoorLG2
import Derived.Test.YtcegniopmpmpiaaGreatDoorET6
namespace Go.Proofs.Lh
open Go Go.RowKit Go.Proofs.Lg
open Go.Ab (RD D)

theorem order_walk (vl ve : Value) (g : Gr) (a b c : Int) (w : World) (hg : GrIn w vl ve g) (ha : 0 ≤ a ∧ a < 256) (hb : 0 ≤ b ∧ b < 256) (hc : 0 ≤ c ∧ c < 256) :
    Calls Tryz.prog 3 #[.agg #[vl, ve], .agg #[.int .u8 a, .int .u8 b, .int .u8 c]] w fun e w' => e = .returned (.bool true) ∧ Below w.heap.size w w' := by
  have h := orderLaw_fn ET.awake_true (grAny_in hg) ha hb hc
  refine (h.calls (Go.Bb.cellsIn w) w [.agg #[vl, ve], .agg #[.int .u8 a, .int .u8 b, .int .u8 c]] rfl fun i v d hv hd => ?_).mono fun e w' hh => ?_
  · match i with
    | 0 => simp at hv hd; subst hv; subst hd; exact dGraph_in hg
    | 1 =>
      simp at hv hd; subst hv; subst hd
      refine .agg [.int .u8 a, .int .u8 b, .int .u8 c] [.sc (.int .u8 a), .sc (.int .u8 b), .sc (.int .u8 c)] rfl (fun u hu => ?_) fun i u d hu hd => ?_
      · simp at hu; rcases hu with rfl | rfl | rfl <;> rfl
      · match i with
        | 0 => simp at hu hd; subst hu; subst hd; exact .sc _
        | 1 => simp at hu hd; subst hu; subst hd; exact .sc _
        | 2 => simp at hu hd; subst hu; subst hd; exact .sc _
        | i + 3 => simp at hu
    | i + 2 => simp at hv
  · obtain ⟨v, he, hr, hb⟩ := hh
    have := RD_sc hr
    subst this
    exact ⟨he, hb⟩
end Go.Proofs.Lh

namespace Go.Proofs.YtcegniopmpmpiaaGreatDoor
open Go.ChangeShapes Go.WideShapes Go.ChangeAt Go.RowKit Go.Proofs.Lg

theorem own : ownKnob Tryz.prog.godebug = none := by kernel_rfl
theorem laidOut : laidOutB Tryz.prog = true := by kernel_rfl

section
variable {H : Type} {enc : TypeId × Value → H} {w : World} {base : Nat} {spare : Nat → Bool} {held : Bool}
set_option maxRecDepth 100000 in
/-- An array of three bytes, opened. -/
theorem bytes3_open {r : Reach} {b0 : Nat} {v : Value} {d : DataW H} {p : List MemPlace} (hv : Value.okWide Tryz.prog w r b0 26 v) (h : DataW.Trod enc Tryz.prog w base spare held 26 v d p) :
    ∃ a b c : Int, v = .agg #[.int .u8 a, .int .u8 b, .int .u8 c] ∧ (0 ≤ a ∧ a < 256) ∧ (0 ≤ b ∧ b < 256) ∧ (0 ≤ c ∧ c < 256) := by
  have hce : Tryz.prog.cellsOf 5 = 1 := cellsOf_u8
  have hC : Tryz.prog.cellsOf 26 = 3 := by kernel_rfl
  simp only [Value.okWide, Tryz.underlying26] at hv
  obtain ⟨cs, rfl, h2, _⟩ := hv
  obtain ⟨c0, c1, c2, rfl⟩ := Joins.array3 (h2.trans hC)
  obtain ⟨fuel, hf⟩ := h
  obtain ⟨y0, y1, y2, n, _, k0, k1, k2⟩ := trod_array3 Tryz.underlying26 hce (by simpa [Value.cells] using hf)
  obtain ⟨n0, e0, _, w0⟩ := DataW.trod_int Tryz.underlying5 k0
  obtain ⟨n1, e1, _, w1⟩ := DataW.trod_int Tryz.underlying5 k1
  obtain ⟨n2, e2, _, w2⟩ := DataW.trod_int Tryz.underlying5 k2
  obtain rfl := List.singleton_inj.1 e0
  obtain rfl := List.singleton_inj.1 e1
  obtain rfl := List.singleton_inj.1 e2
  exact ⟨n0, n1, n2, rfl, wf_u8 w0, wf_u8 w1, wf_u8 w2⟩
end

set_option maxRecDepth 100000 in
theorem linegraphOrder_lifted (os : Os) (started : os.Started) (H : Type) (enc : TypeId × Value → H) :
    ReturnsInHanded {} Tryz.checked os 3 .any (fun w args => (Rows.linegraphOrderSpec.pre enc Tryz.prog Tryz.f3 Rows.linegraphOrderRow.domain false w args ∧ laidMetH Tryz.prog Rows.linegraphOrderRow.laid w) ∧ sizedMet enc Tryz.prog Tryz.f3 (OpenSpec.ofChange Rows.linegraphOrderSpec) false w args)
      (Rows.linegraphOrderSpec.post enc Tryz.prog Tryz.f3 false true false false) := by
  refine returnsInHanded_of_change_and (C := Tryz.checked) (X := fun w _ => laidMetH Tryz.prog Rows.linegraphOrderRow.laid w) (fun _ _ _ hh h => h.of_heap hh) own started (by kernel_rfl) Tryz.func3
    (ChangeSpec.witness_shaped (enc := enc) (C := Tryz.checked) (os := os) (X := fun w _ => laidMetH Tryz.prog Rows.linegraphOrderRow.laid w) false (World.laidAll Tryz.prog os Rows.linegraphOrderRow.laid) #[.agg #[.slice none 0 0, .slice none 0 0], .agg #[.int .u8 0, .int .u8 0, .int .u8 0]] 8 (World.laidAll_os _ _ _)
      (World.shaped_of_ZipB (by kernel_rfl) (by kernel_rfl)) (by kernel_rfl) (by kernel_rfl) (by kernel_rfl)
      (by rw [MakeChecks.laidMetH_plain _ _ _ (by kernel_rfl)]; exact laidMet_laidAll _ (by kernel_rfl) (by kernel_rfl))) ?_
  intro W base args ds gs before hval0 hW hc _ hL _
  have hval : ∀ (j : Nat) t v, Tryz.f3.params[j]? = some t → args[j]? = some v → Value.okWide Tryz.prog W .any base t v := hval0
  have hW' := hW
  obtain ⟨p, q, hA0, hV, rfl, _, _⟩ := hW
  have hA : DataW.TrodAll enc Tryz.prog W 0 (fun _ => true) true Tryz.f3.params.toList args.toList ds p := hA0
  rw [Tryz.params3] at hA hval
  obtain ⟨v0, vs0, d0, ds0, p0, q0, hargs, rfl, rfl, h0, r0⟩ := trodAll_cons hA
  obtain ⟨v1, vs1, d1, ds1, p1, q1, hargs1, rfl, rfl, h1, r1⟩ := trodAll_cons r0
  obtain ⟨rfl, rfl, rfl⟩ := trodAll_nil r1
  obtain rfl : args = #[v0, v1] := by cases args; simp_all
  obtain ⟨rfl, rfl⟩ := trodVars_none hV
  have k0 := h0
  have k1 := h1
  have lt0 : ∀ x ∈ p0, x.block < W.heap.size := by obtain ⟨m, hm⟩ := k0; exact DataW.trod_lt m _ _ _ hm
  have lt1 : ∀ x ∈ p1, x.block < W.heap.size := by obtain ⟨m, hm⟩ := k1; exact DataW.trod_lt m _ _ _ hm
  obtain ⟨vl, ve, g, rfl, hg⟩ := graph_open (hval 0 25 v0 rfl rfl) h0
  obtain ⟨a, b, c, rfl, ha, hb, hcc⟩ := bytes3_open (hval 1 26 v1 rfl rfl) h1
  clear hA0 hval0
  refine (Go.Proofs.Lh.order_walk vl ve g a b c W hg ha hb hcc).mono fun e W' ⟨he, bel⟩ => ?_
  subst he
  exact ⟨_, rfl, _, _, _, [], _, [], hW', trodAll_mk1 (shut_bool Tryz.underlying4 _), (trodAll_cons_mk (Below.trod laidOut (by kernel_rfl) (of_decide_eq_true (by kernel_rfl)) k0 bel lt0) (trodAll_cons_mk (Below.trod laidOut (by kernel_rfl) (of_decide_eq_true (by kernel_rfl)) k1 bel lt1) trodAll_mk0)), rfl, bel.frame _, fun h => by cases h⟩

theorem linegraphOrder_row : Rows.linegraphOrderRow.holds Tryz.pinned (OpenSpec.ofChange Rows.linegraphOrderSpec) :=
  OpenClaim.holds_of_wide 3 Tryz.f3 rfl rfl rfl rfl rfl rfl rfl ⟨rfl, rfl, rfl, rfl, rfl⟩ rfl rfl rfl rfl rfl (by kernel_rfl) Tryz.func3 (by kernel_rfl)
    (of_decide_eq_true (by kernel_rfl)) (by unfold Func.isWrapper; first | (rw [if_pos (by decide +kernel)]; kernel_rfl) | (rw [if_neg (by decide +kernel)]; exact ⟨rfl, rfl⟩))
    (fun os started H enc _ => linegraphOrder_lifted os started H enc)

theorem linegraphOrder_holds : Rows.LinegraphOrderCardSaid :=
  Claim7.holds_tied_plain_at .later [] [.data, .data, .data] true (true, "698c80e1c10f12f289bd675cff995787fac4500a65eb798b53b350b35ac93f51") false linegraphOrder_row (fun _ h => by cases h) (by kernel_rfl) (fun _ h => by cases h) linegraphOrder_row_tie rfl ⟨rfl, rfl⟩ (by kernel_rfl) rfl
    (fun f fn hf hfn => by
      obtain rfl : f = 3 := Option.some.inj ((show Tryz.prog.funcNamed "quilt/quiltlaw21.LinegraphOrder" = some 3 by kernel_rfl).symm.trans hf) |>.symm
      obtain rfl : fn = Tryz.f3 := (Option.some.inj (Tryz.func3.symm.trans hfn)).symm
      exact ⟨by kernel_rfl, fun j t ht => by
        rw [Tryz.params3] at ht
        have hm : t ∈ [25, 26] := by simpa using Array.mem_of_getElem? ht
        have hall : ([25, 26].all fun u => !Tryz.prog.wantsStandIn u) = true := by kernel_rfl
        exact (show Tryz.prog.wantsStandIn t = false by simpa using List.all_eq_true.1 hall t hm)⟩)
    (by kernel_rfl)
#print axioms linegraphOrder_holds
end Go.Proofs.YtcegniopmpmpiaaGreatDoor
