/-
  Part L5 of this claim's proof. Joined by merge.py from the texts of wip/tpl.
-/
import Derived.Test.YtclholnhkhjjaaaGreatL4
import Derived.Test.YtclholnhkhjjaaaGreatQ3
set_option linter.unusedVariables false
set_option linter.unusedSimpArgs false
set_option linter.unnecessarySimpa false
namespace Go.Proofs.Lg
open Go Go.RowKit

/-- A region whose lists are short enough to be compared. -/
def Fits (r : Reg) : Prop := r.lines.length ≤ 10000000 ∧ r.sides.length ≤ 10000000 ∧ ∀ s ∈ r.sides, s.length ≤ 10000000

theorem RegsIn.cells {W : World} {v : Value} {regs : List Reg} (h : RegsIn W v regs) : ∃ a c, v = .slice a regs.length c ∧ ∀ (k : Nat) (r : Reg), regs[k]? = some r → ∃ b off al nl cl ay ns cs, a = some ⟨b, off, none⟩ ∧ W.cell? ⟨b, off + k * 3, none⟩ = some (.bool r.conflict) ∧ W.cell? ⟨b, off + k * 3 + 1, none⟩ = some (.slice al nl cl) ∧ W.cell? ⟨b, off + k * 3 + 2, none⟩ = some (.slice ay ns cs) ∧
    SlAt W (.slice al nl cl) (ints (nats r.lines)) ∧ SlOf W (.slice ay ns cs) (r.sides.map fun s => ints (nats s)) := by
  obtain ⟨cs, ⟨a, c, rfl, _, _, hc⟩, hl, hr⟩ := h
  refine ⟨a, c, by rw [hl], fun k r hk => ?_⟩
  have hkl : k < cs.length := by rw [hl]; exact (List.getElem?_eq_some_iff.1 hk).1
  obtain ⟨b, off, ha, hcc⟩ := hc (by intro e; subst e; simp at hkl)
  have e1 : cs[k]? = some cs[k] := List.getElem?_eq_getElem hkl
  have h1 := hcc k _ e1
  obtain ⟨vl, vs, hv, h2, h3⟩ := hr k _ r e1 hk
  rw [hv] at h1
  obtain ⟨al, cl, hvl⟩ : ∃ al cl, vl = .slice al (ints (nats r.lines)).length cl := by obtain ⟨a, c, h, _⟩ := h2; exact ⟨a, c, h⟩
  obtain ⟨ay, ns, cs', hvs⟩ : ∃ ay ns cs, vs = .slice ay ns cs := by obtain ⟨_, ⟨a, c, h, _⟩, _⟩ := h3; exact ⟨a, _, c, h⟩
  subst hvl hvs
  exact ⟨b, off, al, _, cl, ay, ns, cs', ha, h1 0 _ rfl, h1 1 _ rfl, h1 2 _ rfl, h2, h3⟩

set_option maxRecDepth 100000 in
set_option maxHeartbeats 4000000 in
theorem refSame_true (regs : List Reg) (va vb : Value) (w : World) (ha : RegsIn w va regs) (hb : RegsIn w vb regs) (hf : ∀ r ∈ regs, Fits r) (_hl : regs.length ≤ 10000000) :
    Calls Tryz.prog 12 #[va, vb] w fun e w' => e = .returned (.bool true) ∧ Below w.heap.size w w' := by
  obtain ⟨a, ca, rfl, hca⟩ := RegsIn.cells ha
  obtain ⟨b, cb, rfl, hcb⟩ := RegsIn.cells hb
  have HA := Lib.hid hca
  have HB := Lib.hid hcb
  have HF := Lib.hid hf
  clear hca hcb ha hb hf
  go_enter Tryz.func12, Tryz.ntmps12
  go_wp2
  go_loopw [5] (fun i wr => ∃ k : Nat, k ≤ regs.length ∧ i = .int .i64 k ∧ Keep w wr) (fun i _ => regs.length - (intOf i).toNat)
  case atStart => exact ⟨0, Nat.zero_le _, rfl, Keep.refl _⟩
  case round =>
    obtain ⟨k, hk, rfl, hK⟩ := hrel
    by_cases hlt : k < regs.length
    · obtain ⟨b1, o1, al1, nl1, cl1, as1, ns1, cs1, rfl, p0, p1, p2, s1, t1⟩ := HA.out k _ (List.getElem?_eq_getElem hlt)
      obtain ⟨b2, o2, al2, nl2, cl2, as2, ns2, cs2, rfl, r0, r1, r2, s2, t2⟩ := HB.out k _ (List.getElem?_eq_getElem hlt)
      obtain ⟨F1, F2, F3⟩ := HF.out _ (List.getElem_mem hlt)
      generalize regs[k] = r at *
      have hc : (r.conflict != r.conflict) = false := by simp
      generalize r.conflict = cf at *
      have HS := Lib.hid (And.intro (s1.below hK) (And.intro (s2.below hK) (And.intro (t1.below hK) (t2.below hK))))
      have HFF := Lib.hid (And.intro F1 (And.intro F2 F3))
      have hne : Nonempty (Cls (Keep wr)) := ⟨⟨wr, Keep.refl wr⟩⟩
      have q0 : ∀ p : Cls (Keep wr), p.w.cell? ⟨b1, o1 + k * 3, none⟩ = some (.bool cf) := fun p => below_cell p.h (below_cell hK p0)
      have q1 : ∀ p : Cls (Keep wr), p.w.cell? ⟨b1, o1 + k * 3 + 1, none⟩ = some (.slice al1 nl1 cl1) := fun p => below_cell p.h (below_cell hK p1)
      have q2 : ∀ p : Cls (Keep wr), p.w.cell? ⟨b1, o1 + k * 3 + 2, none⟩ = some (.slice as1 ns1 cs1) := fun p => below_cell p.h (below_cell hK p2)
      have u0 : ∀ p : Cls (Keep wr), p.w.cell? ⟨b2, o2 + k * 3, none⟩ = some (.bool cf) := fun p => below_cell p.h (below_cell hK r0)
      have u1 : ∀ p : Cls (Keep wr), p.w.cell? ⟨b2, o2 + k * 3 + 1, none⟩ = some (.slice al2 nl2 cl2) := fun p => below_cell p.h (below_cell hK r1)
      have u2 : ∀ p : Cls (Keep wr), p.w.cell? ⟨b2, o2 + k * 3 + 2, none⟩ = some (.slice as2 ns2 cs2) := fun p => below_cell p.h (below_cell hK r2)
      have i1 : (0 : Int) ≤ (k : Int) := by omega
      have i2 : (k : Int) < regs.length := by omega
      have C1 : Hid (∀ p : Cls (Keep wr), Calls Tryz.prog 9 #[.slice al1 nl1 cl1, .slice al2 nl2 cl2] p.w fun e w' => e = .returned (.bool true) ∧ Below p.w.heap.size p.w w') := fun p =>
        refSameInts_true (nats r.lines) _ _ p.w (HS.out.1.below p.h) (HS.out.2.1.below p.h) (by rw [nats_length]; exact HFF.out.1)
      have C2 : Hid (∀ p : Cls (Keep wr), Calls Tryz.prog 41 #[.slice as1 ns1 cs1, .slice as2 ns2 cs2] p.w fun e w' => e = .returned (.bool true) ∧ Below p.w.heap.size p.w w') := fun p =>
        refSameInts21_true (r.sides.map nats) _ _ p.w (by rw [List.map_map]; exact HS.out.2.2.1.below p.h) (by rw [List.map_map]; exact HS.out.2.2.2.below p.h) (by simpa using HFF.out.2.1) (by
          intro s hs
          obtain ⟨s', hs', rfl⟩ := List.mem_map.1 hs
          rw [nats_length]; exact HFF.out.2.2 s' hs')
      clear p0 p1 p2 r0 r1 r2 s1 s2 t1 t2 F1 F2 F3 HA HB HF HS HFF
      go_wp2
      refine wp_region_cls (Keep wr) (by kernel_rfl) (by kernel_rfl) (Keep.drew wr) ?_
      repeat (go_big_quiet_step ((first | (go_at_call 9; refine Calls.cls (C1.out _)) | (go_at_call 41; refine Calls.cls (C2.out _)))))
      refine wpQuiet_nil ?_
      rintro w1 ⟨⟨_, hw1⟩, rfl⟩
      go_wp2
      go_roundw
      case rel => exact ⟨k + 1, by omega, by go_num, hK.trans hw1⟩
      case measure => simp [intOf]; omega
    · go_wp2
      go_ret
      exact ⟨rfl, hK⟩
end Go.Proofs.Lg
