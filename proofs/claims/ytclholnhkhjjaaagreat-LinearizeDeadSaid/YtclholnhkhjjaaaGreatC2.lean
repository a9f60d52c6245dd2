/-
  Part C2 of this claim's proof. Joined by merge.py from the texts of wip/tpl.
-/
import Derived.Test.YtclholnhkhjjaaaGreatC1
import Derived.StillTailTactics
set_option linter.unusedVariables false
set_option linter.unusedSimpArgs false
set_option linter.unnecessarySimpa false
namespace Go.Proofs.Lg
open Go Go.RowKit
attribute [local go_sem ↓] Go.wp_at_zero Go.wp_at_succ

def ints (l : List Int) : List Value := l.map (Value.int .i64)
theorem ints_length (l : List Int) : (ints l).length = l.length := by simp [ints]
theorem ints_get (l : List Int) (k : Nat) (h : k < l.length) : (ints l)[k]? = some (Value.int .i64 l[k]) := by simp [ints, h]

theorem ret_int {k : IntKind} {a b : Int} (h : a = b) : Ending.returned (.int k a) = .returned (.int k b) := by rw [h]

def orInt : List Int → Int
  | [] => 0
  | x :: l => if x = 0 then orInt l else x

set_option maxHeartbeats 400000 in
theorem cmpOr_any (l : List Int) (v : Value) (w : World) (h : SlAt w v (ints l)) :
    Calls Tryz.prog 121 #[v] w fun e w' => e = .returned (.int .i64 (orInt l)) ∧ w = w' := by
  obtain ⟨a, c, rfl, h1, h2, h3⟩ := h
  rw [ints_length] at h1 ⊢
  go_enter Tryz.func121, Tryz.ntmps121
  go_wp2
  go_loop [8] (fun i => ∃ k : Nat, k ≤ l.length ∧ i = .int .i64 k ∧ orInt l = orInt (l.drop k)) (fun i => l.length - (intOf i).toNat)
  case atStart => exact ⟨0, Nat.zero_le _, rfl, rfl⟩
  case round =>
    obtain ⟨k, hk, rfl, hor⟩ := hrel
    have HO := Lib.hid hor
    clear hor
    have hle : l.length ≤ 9223372036854775807 := by omega
    by_cases hlt : k < l.length
    · obtain ⟨b, off, rfl, hc⟩ := h3 (by intro e; rw [← ints_length, e] at hlt; simp at hlt)
      have hcell := hc k _ (ints_get l k hlt)
      clear hc h3
      have hd := List.drop_eq_getElem_cons hlt
      generalize l[k] = x at hcell hd
      have HD := Lib.hid hd
      clear hd
      by_cases hx : x = 0
      · subst hx
        go_wp2
        go_round
        case rel => exact ⟨k + 1, by omega, by go_num, by rw [HO.out, HD.out]; simp [orInt]⟩
        case measure => simp [intOf]; omega
      · have hx1 : (x != 0) = true := by simp [hx]
        have hx2 : (x == 0) = false := by simp [hx]
        have HX := Lib.hid hx
        clear hx
        go_wp2
        go_ret
        exact ⟨ret_int (by rw [HO.out, HD.out]; simp [orInt, HX.out]), rfl⟩
    · have HK := Lib.hid (show k = l.length by omega)
      clear h3
      go_wp2
      go_ret
      exact ⟨ret_int (by rw [HO.out, HK.out]; simp [orInt]), rfl⟩

set_option maxHeartbeats 400000 in
theorem compareEdges_any (a b c d : Int) (w : World) :
    Calls Tryz.prog 94 #[.agg #[.int .i64 a, .int .i64 b], .agg #[.int .i64 c, .int .i64 d]] w fun e w' => e = .returned (.int .i64 (orInt [cmpInt a c, cmpInt b d])) ∧ Below w.heap.size w w' := by
  go_enter Tryz.func94, Tryz.ntmps94
  go_wp2
  go_region_held3 (fun w' => w'.cell? ⟨w.heap.size, 0, none⟩ = some (.int .i64 a) ∧ w'.cell? ⟨w.heap.size, 1, none⟩ = some (.int .i64 b) ∧ w'.cell? ⟨w.heap.size + 1, 0, none⟩ = some (.int .i64 c) ∧ w'.cell? ⟨w.heap.size + 1, 1, none⟩ = some (.int .i64 d)) (go_keep)
    (first | (go_at_call_of 120 (Value.int .i64 a); refine (cmpCompare_any a c _).mono ?_; rintro e w' ⟨rfl, rfl⟩) | (go_at_call_of 120 (Value.int .i64 b); refine (cmpCompare_any b d _).mono ?_; rintro e w' ⟨rfl, rfl⟩) | (go_at_call 121; refine (cmpOr_any [cmpInt a c, cmpInt b d] _ _ ?_).mono ?_; (exact (SlAt.new _ [Value.int .i64 (cmpInt a c), Value.int .i64 (cmpInt b d)] _ _ (by simp) 2 rfl (by omega)).drew); rintro e w' ⟨rfl, rfl⟩))
  go_wp2
  go_ret
  exact ⟨rfl, (((Below.refl _ _).alloc (Nat.le_refl _) _).alloc (by simp) _ |>.alloc (by simp; omega) _).drew⟩
end Go.Proofs.Lg
