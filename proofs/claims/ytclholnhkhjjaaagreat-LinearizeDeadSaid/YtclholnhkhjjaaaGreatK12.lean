/-
  Part K12 of this claim's proof. Joined by merge.py from the texts of wip/tpl.
-/
import Derived.Test.YtclholnhkhjjaaaGreatPA
import Derived.Test.YtclholnhkhjjaaaGreatV3
import Derived.Test.YtclholnhkhjjaaaGreatWA
import Derived.Test.YtclholnhkhjjaaaGreatAbA
set_option linter.unusedVariables false
set_option linter.unusedSimpArgs false
set_option linter.unnecessarySimpa false
namespace Go.Proofs.Lg
open Go Go.RowKit Go.Shelf

set_option maxHeartbeats 2000000 in
theorem dead1_any (v : Value) (l : List Nat) (d Bd : Nat) (w : World) (hsl : SlAt w v (ints (nats l))) (hn : l.length ≤ 1000000) (hl : ∀ i ∈ l, i ≤ 1000000) (hd : w.cell? ⟨Bd, 0, none⟩ = some (.int .i64 d)) (hdn : d ≤ 1000000) :
    Calls Tryz.prog 19 #[v, .pointer (some ⟨Bd, 0, none⟩)] w fun e w' => ∃ u, e = .returned u ∧ w'.ownsRow w.heap.size 3 1 u (l.map (mv d)).length (ints (nats (l.map (mv d)))) ∧ Below w.heap.size w w' := by
  obtain ⟨a, c, rfl, h1, h2, h3⟩ := hsl
  rw [ints_length, nats_length] at *
  have HC := Lib.hid h3
  clear h3
  have hdl := cell_lt hd
  go_enter Tryz.func19, Tryz.ntmps19
  go_wp2_with (fail)
  go_loopg [4, 9] (l.length) (fun gk vo v9 wr => ∃ k : Nat, gk + k = l.length ∧ v9 = .int .i64 (k : Nat) ∧ wr.ownsRow w.heap.size 3 1 vo ((l.take k).map (mv d)).length (ints (nats ((l.take k).map (mv d)))) ∧ Below w.heap.size w wr)
  case atStart => exact ⟨0, rfl, rfl, World.ownsRow_nil _ _ _ _, Below.refl _ _⟩
  case round =>
    obtain ⟨k, hgk, rfl, hown, hB⟩ := hrel
    by_cases hlt : k < l.length
    · obtain ⟨b, off, rfl, hc⟩ := HC.out (by intro e; have := congrArg List.length e; simp [ints, nats] at this; rw [this] at hlt; simp at hlt)
      have hx := List.getElem?_eq_getElem hlt
      have hxm := hl l[k] (List.getElem_mem _)
      have hck := below_cell hB (hc k (.int .i64 (l[k] : Nat)) (by simp [ints, nats, hlt]))
      have hdk := below_cell hB hd
      have hdkl := cell_lt hdk
      have hckl := cell_lt hck
      generalize l[k] = x at hx hxm hck
      have hlen : ((l.take k).map (mv d)).length = k := by rw [List.length_map, List.length_take]; omega
      have hnext : (l.take (k + 1)).map (mv d) = (l.take k).map (mv d) ++ [mv d x] := by rw [List.take_add_one, hx]; simp
      generalize (l.take k).map (mv d) = out at hown hlen hnext
      subst hlen
      obtain ⟨ao, co, hvo⟩ := ownsRow_form hown
      subst hvo
      have HO := Lib.hid hown
      have HB := Lib.hid hB
      have HN := Lib.hid (And.intro hnext hgk)
      have hlow : out.length + 1 ≤ 1000000 := by omega
      clear hown hB hnext hx hgk hc
      have happ : ∀ y : Nat, ∀ w1 : World, w1 = wr.alloc (.cells #[.int .i64 (y : Nat)] 3) → w1.ownsRow w.heap.size 3 1 (.slice ao out.length co) out.length (ints (nats out)) ∧ SrcAt w1 (.slice (some ⟨wr.heap.size, 0, none⟩) 1 1) 1 1 [.int .i64 (y : Nat)] ∧ w.heap.size ≤ w1.heap.size := by
        intro y w1 h1
        subst h1
        refine ⟨ownsRow_below HO.out ((Below.refl _ _).alloc (Nat.le_refl _) _), SrcAt.one _ _ _ [.int .i64 (y : Nat)] fun j u hu => ?_, by have := HB.out.size; simp; omega⟩
        cases j with
        | zero => simp at hu; subst hu; simp [go_sem]
        | succ j => simp at hu
      have HA := Lib.hid happ
      clear happ
      by_cases hgt : d < x
      · have hdec : decide ((x : Int) > (d : Int)) = true := by simp; omega
        have hgi : (d : Int) < (x : Int) := by omega
        have hsub : IntKind.i64.wrap ((x : Int) - 1) = ((x - 1 : Nat) : Int) := by rw [Go.Ab.wrap64_id (by omega) (by omega)]; omega
        have HM : Hid (mv d x = x - 1) := by show _ = _; unfold mv; rw [if_pos hgt]
        clear hgt
        go_wp2_with (at_builtin; refine wpList_app rfl _ _ _ rfl w.heap.size 3 (.int .i64 0) 1 8 Tryz.underlying29 info_int rfl (by decide) _ out.length (ints (nats out)) rfl (HA.out (x - 1) _ rfl).1 _ 1 [.int .i64 ((x - 1 : Nat) : Int)] rfl (HA.out (x - 1) _ rfl).2.1 (by intro u hu; simp at hu; subst hu; rfl) (by omega) (by omega) (HA.out (x - 1) _ rfl).2.2 ?_; intro a' c' w2 hown2 hgrow2 hat2)
        go_roundg (gk - 1)
        case measure => have := HN.out.2; omega
        case rel =>
          have h5 := HN.out.2
          refine ⟨out.length + 1, by omega, by go_num, ?_, ?_⟩
          · rw [HN.out.1, HM.out]
            simpa [ints, nats] using hown2
          · exact (HB.out.alloc HB.out.size _).grown hgrow2 (by have := HB.out.size; simp; omega) (fun k e => (HO.out.lt k e).1)
      · have hdec : decide ((x : Int) > (d : Int)) = false := by simp; omega
        have hgi : ¬ (d : Int) < (x : Int) := by omega
        have HM : Hid (mv d x = x) := by show _ = _; unfold mv; rw [if_neg hgt]
        clear hgt
        go_wp2_with (at_builtin; refine wpList_app rfl _ _ _ rfl w.heap.size 3 (.int .i64 0) 1 8 Tryz.underlying29 info_int rfl (by decide) _ out.length (ints (nats out)) rfl (HA.out (x) _ rfl).1 _ 1 [.int .i64 ((x : Nat) : Int)] rfl (HA.out (x) _ rfl).2.1 (by intro u hu; simp at hu; subst hu; rfl) (by omega) (by omega) (HA.out (x) _ rfl).2.2 ?_; intro a' c' w2 hown2 hgrow2 hat2)
        go_roundg (gk - 1)
        case measure => have := HN.out.2; omega
        case rel =>
          have h5 := HN.out.2
          refine ⟨out.length + 1, by omega, by go_num, ?_, ?_⟩
          · rw [HN.out.1, HM.out]
            simpa [ints, nats] using hown2
          · exact (HB.out.alloc HB.out.size _).grown hgrow2 (by have := HB.out.size; simp; omega) (fun k e => (HO.out.lt k e).1)
    · have hkl : k = l.length := by omega
      subst hkl
      rw [List.take_length] at hown
      obtain ⟨ao, co, hvo⟩ := ownsRow_form hown
      subst hvo
      have HO := Lib.hid hown
      have HB := Lib.hid hB
      clear hown hB
      go_wp2_with (fail)
      go_ret
      exact ⟨_, rfl, HO.out, HB.out⟩
end Go.Proofs.Lg
