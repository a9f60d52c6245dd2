/-
  Contract of quiltref23.Lines.
-/
import Derived.Test.YtkjmdefgdongfaaQ3
import Derived.Test.YtkjmdefgdongfaaP4
namespace Go.Proofs.Lg
open Go Go.RowKit

/-- The lines of a region, its sides up to number k. -/
def Reg.upto (r : Reg) (k : Nat) : List Nat := r.lines ++ (r.sides.take k).flatten
theorem Reg.upto_succ {r : Reg} {k : Nat} (h : k < r.sides.length) : r.upto (k + 1) = r.upto k ++ r.sides[k] := by
  unfold Reg.upto; rw [List.take_succ_eq_append_getElem h, List.flatten_append, List.flatten_singleton, List.append_assoc]
theorem Reg.upto_le (r : Reg) (k : Nat) : (r.upto k).length ≤ r.lines.length + r.sides.flatten.length := by
  unfold Reg.upto
  rw [show r.sides.flatten.length = ((r.sides.take k) ++ r.sides.drop k).flatten.length by rw [List.take_append_drop], List.flatten_append, List.length_append, List.length_append]; omega

set_option maxRecDepth 100000 in
set_option maxHeartbeats 4000000 in
theorem refLines_any (cf : Bool) (vl vs : Value) (r : Reg) (w : World) (hl : SlAt w vl (ints (nats r.lines))) (hs : SlOf w vs (r.sides.map fun s => ints (nats s))) (hsm : Small r) :
    Calls Try.prog 12 #[.agg #[.bool cf, vl, vs]] w fun e w' => ∃ v, e = .returned v ∧ w'.ownsRow w.heap.size 3 1 v r.all.length (ints (nats r.all)) ∧ Below w.heap.size w w' := by
  obtain ⟨al, cl, hvl⟩ : ∃ a c, vl = .slice a r.lines.length c := by obtain ⟨a, c, h, _⟩ := hl; rw [ints_length, nats_length] at h; exact ⟨a, c, h⟩
  obtain ⟨us, hu1, hu2, hu3⟩ := hs
  have hul : us.length = r.sides.length := by simpa using hu2
  obtain ⟨ay, cy, hvs, _, _, hus⟩ := hu1
  rw [hul] at hvs
  subst hvl hvs
  have hb1 : r.sides.length ≤ 2000000 := hsm.1
  have hb2 : r.lines.length + r.sides.flatten.length ≤ 2000000 := hsm.2
  have hb0 : Below w.heap.size w (w.alloc (.cells #[.bool cf, .slice al r.lines.length cl, .slice ay r.sides.length cy] 41)) := (Below.refl _ _).alloc (Nat.le_refl _) _
  have hbE : Below (w.heap.size + 1) (w.alloc (.cells #[.bool cf, .slice al r.lines.length cl, .slice ay r.sides.length cy] 41)) ((w.alloc (.cells #[.bool cf, .slice al r.lines.length cl, .slice ay r.sides.length cy] 41)).alloc (.cells #[] 3)) := (Below.refl _ _).alloc (by simp) _
  have own0 : ((w.alloc (.cells #[.bool cf, .slice al r.lines.length cl, .slice ay r.sides.length cy] 41)).alloc (.cells #[] 3)).ownsRow (w.heap.size + 1) 3 1 (.slice (some ⟨w.heap.size + 1, 0, none⟩) 0 0) 0 [] :=
    ⟨rfl, .inr ⟨w.heap.size + 1, 0, #[], rfl, Nat.le_refl _, by rw [show w.heap.size + 1 = (w.alloc (.cells #[.bool cf, .slice al r.lines.length cl, .slice ay r.sides.length cy] 41)).heap.size by simp]; exact heap_alloc_new _ _, Nat.le_refl _, by decide, rfl, rfl⟩⟩
  have src0 := (hl.below (hb0.trans (hbE.mono (by omega)))).src
  rw [ints_length, nats_length] at src0
  have HOWN := Lib.hid own0
  have HSRC := Lib.hid src0
  have HBE := Lib.hid hbE
  have HB0 := Lib.hid hb0
  have HUS := Lib.hid (And.intro hul (And.intro hus hu3))
  have HUL : Hid (∀ k, (r.upto k).length ≤ 2000000) := fun k => Nat.le_trans (r.upto_le k) hb2
  have c2 : (w.alloc (.cells #[.bool cf, .slice al r.lines.length cl, .slice ay r.sides.length cy] 41)).cell? ⟨w.heap.size, 2, none⟩ = some (.slice ay r.sides.length cy) := by rw [cell_of_heap (heap_alloc_new w _)]; rfl
  have HC2 := Lib.hid c2
  have hln : r.lines.length ≤ 2000000 := by omega
  clear hl own0 src0 hbE hb0 hul hus hu3 hu2 c2 hb2
  go_enter Try.func12, Try.ntmps12
  go_wp2_with (at_builtin; refine wpList_app rfl _ _ _ rfl (w.heap.size + 1) 3 (.int .i64 0) 1 8 Try.underlying28 info_int rfl (by decide) _ 0 [] rfl HOWN.out _ r.lines.length (ints (nats r.lines)) rfl HSRC.out (oneCell_ints _) (by omega) (by omega) (by simp) ?_; intro a' c' w2 hown2 hgrow2 hat2)
  have hB2 : Below (w.heap.size + 1) (w.alloc (.cells #[.bool cf, .slice al r.lines.length cl, .slice ay r.sides.length cy] 41)) w2 := HBE.out.grown hgrow2 (by simp) (fun j hj => by have : w.heap.size + 1 = j := Option.some.inj hj; omega)
  have HB2 := Lib.hid hB2
  have HO2 : Hid (w2.ownsRow (w.heap.size + 1) 3 1 (.slice a' r.lines.length c') (r.upto 0).length (ints (nats (r.upto 0)))) := by
    show w2.ownsRow _ _ _ _ _ _
    have : r.upto 0 = r.lines := by simp [Reg.upto]
    rw [this]
    simpa using hown2
  clear hB2 hown2 hgrow2 hat2 HOWN HSRC HBE
  go_wp2
  go_loopg [3, 4] (r.sides.length + 1) (fun gk out i wr => ∃ k : Nat, i = .int .i64 k ∧ k ≤ r.sides.length ∧ gk + k = r.sides.length + 1 ∧ wr.ownsRow (w.heap.size + 1) 3 1 out (r.upto k).length (ints (nats (r.upto k))) ∧ Below (w.heap.size + 1) (w.alloc (.cells #[.bool cf, .slice al r.lines.length cl, .slice ay r.sides.length cy] 41)) wr)
  case atStart => exact ⟨0, rfl, Nat.zero_le _, rfl, HO2.out, HB2.out⟩
  case round =>
    obtain ⟨k, rfl, hk, hgk, hown, hB⟩ := hrel
    have HO := Lib.hid hown
    have HB := Lib.hid hB
    obtain ⟨ao, co, hvo⟩ := ownsRow_form hown
    subst hvo
    have hx2 : wr.cell? ⟨w.heap.size, 2, none⟩ = some (.slice ay r.sides.length cy) := (hB.cell (p := ⟨w.heap.size, 2, none⟩) (by show w.heap.size < w.heap.size + 1; omega)).trans HC2.out
    have hxl := cell_lt hx2
    have hsz := hB.size
    simp at hsz
    have HBW : Hid (Below w.heap.size w wr) := HB0.out.trans (hB.mono (by omega))
    clear hown hB
    by_cases hlt : k < r.sides.length
    · obtain ⟨b, off, rfl, hcs⟩ := HUS.out.2.1 (by intro e; have := HUS.out.1; rw [e] at this; simp at this; omega)
      have hku : k < us.length := by have := HUS.out.1; omega
      have eu : us[k]? = some us[k] := List.getElem?_eq_getElem hku
      have hcell := below_cell HBW.out (hcs k _ eu)
      have hcl := cell_lt hcell
      have hsl := (HUS.out.2.2 k us[k] (ints (nats r.sides[k])) eu (by rw [List.getElem?_map, List.getElem?_eq_getElem hlt]; rfl)).below HBW.out
      have HTS : Hid (r.upto (k + 1) = r.upto k ++ r.sides[k]) := Reg.upto_succ hlt
      have ht1 := HUL.out k
      have ht2 := HUL.out (k + 1)
      have ht3 : (r.upto k).length + r.sides[k].length ≤ 2000000 := by rw [HTS.out, List.length_append] at ht2; exact ht2
      have hsrc := hsl.src
      rw [ints_length, nats_length] at hsrc
      obtain ⟨au, cu, hu⟩ : ∃ a c, us[k] = .slice a r.sides[k].length c := by obtain ⟨a, c, h, _⟩ := hsl; rw [ints_length, nats_length] at h; exact ⟨a, c, h⟩
      rw [hu] at hcell hsrc
      have HSRC := Lib.hid hsrc
      clear hcs eu hsl hsrc hu hku ht2
      generalize r.sides[k] = sd at *
      go_wp2_with (at_builtin; refine wpList_app rfl _ _ _ rfl (w.heap.size + 1) 3 (.int .i64 0) 1 8 Try.underlying28 info_int rfl (by decide) _ (r.upto k).length (ints (nats (r.upto k))) rfl HO.out _ sd.length (ints (nats sd)) rfl HSRC.out (oneCell_ints _) (by omega) (by omega) (by omega) ?_; intro a' c' w2 hown2 hgrow2 hat2)
      go_roundg (gk - 1)
      case measure => omega
      case rel =>
        refine ⟨k + 1, by go_num, by omega, by omega, ?_, HB.out.grown hgrow2 (by omega) (fun j hj => (HO.out.lt j hj).1)⟩
        rw [HTS.out, List.length_append]
        simpa [ints, nats] using hown2
    · have HK : Hid (r.upto k = r.all) := by
        show _ = _
        unfold Reg.upto Reg.all
        rw [List.take_of_length_le (by omega)]
      clear hgk
      go_wp2
      go_ret
      refine ⟨_, rfl, ?_, HBW.out⟩
      rw [← HK.out]
      exact ownsRow_base' HO.out (by omega)
end Go.Proofs.Lg
