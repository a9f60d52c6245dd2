/-
  Part GQ of this claim's proof. Joined by merge.py from the texts of wip/tpl.
-/
import Derived.Test.YtjlnniaknfpgiaaGreatDoorBbV
import Derived.Test.YtjlnniaknfpgiaaGreatDoorGP
set_option linter.unusedVariables false
set_option linter.unusedSimpArgs false
set_option linter.unnecessarySimpa false
set_option linter.unusedVariables false
namespace Go.Bb
open Go Go.RowKit Go.Ab Go.Proofs.Lg

def eqBy : List UInt8 → List UInt8 → Bool
  | [], [] => true
  | a :: l, b :: m => bif Nat.beq a.toNat b.toNat then eqBy l m else false
  | _, _ => false
theorem eqBy_ok : ∀ {a b : List UInt8}, eqBy a b = true → a = b
  | [], [], _ => rfl
  | a :: l, b :: m, h => by
    unfold eqBy at h
    cases hb : Nat.beq a.toNat b.toNat with
    | false => rw [hb] at h; cases h
    | true =>
      rw [hb] at h
      have e : a = b := UInt8.toNat_inj.1 (Nat.eq_of_beq_eq_true hb)
      rw [e, eqBy_ok (a := l) (b := m) h]
  | [], _ :: _, h => by cases h
  | _ :: _, [], h => by cases h
def eqV : Value → Value → Bool
  | .int k a, .int k' b => decide (k = k') && decide (a = b)
  | .string a, .string b => eqBy a.data.toList b.data.toList
  | .bool a, .bool b => a == b
  | _, _ => false
theorem eqV_ok {a b : Value} (h : eqV a b = true) : a = b := by
  unfold eqV at h
  split at h
  · simp only [Bool.and_eq_true, decide_eq_true_eq] at h; rw [h.1, h.2]
  · rename_i x y
    have := eqBy_ok h
    have e : x = y := by
      cases x; cases y
      simp only [ByteArray.mk.injEq]
      exact Array.toList_inj.1 this
    rw [e]
  · rename_i x y
    have : x = y := by simpa using h
    rw [this]
  · cases h
mutual
def eqD : D → D → Bool
  | .sc a, .sc b => eqV a b
  | .agg l, .agg m => eqDs l m
  | .tup l, .tup m => eqDs l m
  | .sl n l, .sl m k => Nat.beq n m && eqDss l k
  | _, _ => false
def eqDs : List D → List D → Bool
  | [], [] => true
  | a :: l, b :: m => bif eqD a b then eqDs l m else false
  | _, _ => false
def eqDss : List (List D) → List (List D) → Bool
  | [], [] => true
  | a :: l, b :: m => bif eqDs a b then eqDss l m else false
  | _, _ => false
end
mutual
theorem eqD_ok : ∀ {a b : D}, eqD a b = true → a = b
  | .sc a, .sc b, h => by rw [eqV_ok (show eqV a b = true by simpa [eqD] using h)]
  | .agg l, .agg m, h => by rw [eqDs_ok (show eqDs l m = true by simpa [eqD] using h)]
  | .tup l, .tup m, h => by rw [eqDs_ok (show eqDs l m = true by simpa [eqD] using h)]
  | .sl n l, .sl m k, h => by
    simp only [eqD, Bool.and_eq_true] at h
    rw [Nat.eq_of_beq_eq_true h.1, eqDss_ok h.2]
  | .sc _, .agg _, h => by simp [eqD] at h
  | .sc _, .tup _, h => by simp [eqD] at h
  | .sc _, .sl _ _, h => by simp [eqD] at h
  | .sc _, .ref _, h => by simp [eqD] at h
  | .agg _, .sc _, h => by simp [eqD] at h
  | .agg _, .tup _, h => by simp [eqD] at h
  | .agg _, .sl _ _, h => by simp [eqD] at h
  | .agg _, .ref _, h => by simp [eqD] at h
  | .tup _, .sc _, h => by simp [eqD] at h
  | .tup _, .agg _, h => by simp [eqD] at h
  | .tup _, .sl _ _, h => by simp [eqD] at h
  | .tup _, .ref _, h => by simp [eqD] at h
  | .sl _ _, .sc _, h => by simp [eqD] at h
  | .sl _ _, .agg _, h => by simp [eqD] at h
  | .sl _ _, .tup _, h => by simp [eqD] at h
  | .sl _ _, .ref _, h => by simp [eqD] at h
  | .ref _, .sc _, h => by simp [eqD] at h
  | .ref _, .agg _, h => by simp [eqD] at h
  | .ref _, .tup _, h => by simp [eqD] at h
  | .ref _, .sl _ _, h => by simp [eqD] at h
  | .ref _, .ref _, h => by simp [eqD] at h
theorem eqDs_ok : ∀ {a b : List D}, eqDs a b = true → a = b
  | [], [], _ => rfl
  | a :: l, b :: m, h => by
    unfold eqDs at h
    cases hb : eqD a b with
    | false => rw [hb] at h; cases h
    | true => rw [hb] at h; rw [eqD_ok hb, eqDs_ok (show eqDs l m = true from h)]
  | [], _ :: _, h => by simp [eqDs] at h
  | _ :: _, [], h => by simp [eqDs] at h
theorem eqDss_ok : ∀ {a b : List (List D)}, eqDss a b = true → a = b
  | [], [], _ => rfl
  | a :: l, b :: m, h => by
    unfold eqDss at h
    cases hb : eqDs a b with
    | false => rw [hb] at h; cases h
    | true => rw [hb] at h; rw [eqDs_ok hb, eqDss_ok (show eqDss l m = true from h)]
  | [], _ :: _, h => by simp [eqDss] at h
  | _ :: _, [], h => by simp [eqDss] at h
end

def findM : List (Nat × List D × D) → Nat → List D → Option D
  | [], _, _ => none
  | e :: l, f, ds => bif Nat.beq e.1 f then (bif eqDs e.2.1 ds then some e.2.2 else findM l f ds) else findM l f ds
def MemOk (P : Program) : List (Nat × List D × D) → Prop
  | [] => True
  | e :: l => AFn P e.1 e.2.1 e.2.2 ∧ MemOk P l
theorem findM_ok {P : Program} : ∀ {l : List (Nat × List D × D)}, MemOk P l → ∀ {f : Nat} {ds : List D} {r : D}, findM l f ds = some r → AFn P f ds r
  | [], _, _, _, _, h => by cases h
  | e :: l, hl, f, ds, r, h => by
    unfold findM at h
    cases h1 : Nat.beq e.1 f with
    | false => rw [h1] at h; exact findM_ok hl.2 h
    | true =>
      rw [h1] at h
      cases h2 : eqDs e.2.1 ds with
      | false => rw [h2] at h; exact findM_ok hl.2 h
      | true =>
        rw [h2] at h
        have e1 : e.1 = f := Nat.eq_of_beq_eq_true h1
        have e2 : e.2.1 = ds := eqDs_ok h2
        have e3 : e.2.2 = r := Option.some.inj h
        rw [← e1, ← e2, ← e3]; exact hl.1
def Env.memo (E : Env) (l : List (Nat × List D × D)) : Env := ⟨E.fn, fun f ds => match findM l f ds with
  | some r => some r
  | none => E.kn f ds, E.sp⟩
theorem Env.memo_ok {P : Program} {E : Env} (hE : E.Ok P) {l : List (Nat × List D × D)} (hl : MemOk P l) : (E.memo l).Ok P := by
  refine ⟨hE.fn, fun f ds r h => ?_, hE.sp⟩
  unfold Env.memo at h
  dsimp only at h
  split at h
  · rename_i r' h1; obtain rfl := Option.some.inj h; exact findM_ok hl h1
  · exact hE.kn f ds r h
end Go.Bb

set_option linter.unusedVariables false
namespace Go.Proofs.Lh
open Go Go.Ab Go.Bb Go.RowKit Go.Proofs.Lg

def kn1 (f : Nat) (ds : List D) : Option D :=
  bif Nat.beq f 51 then (match ds with
    | [a, b] => knCmp a b
    | _ => none) else bif Nat.beq f 230 then (match ds with
    | [a, b] => knIdx a b
    | _ => none) else none
theorem kn1_ok {f : Nat} {ds : List D} {r : D} (h : kn1 f ds = some r) : AFn Tryz.prog f ds r := by
  unfold kn1 at h
  cases h1 : Nat.beq f 51 with
  | true =>
    rw [h1] at h
    obtain rfl := Nat.eq_of_beq_eq_true h1
    simp only [cond_true] at h
    split at h
    · exact knCmp_ok h
    · cases h
  | false =>
    rw [h1] at h
    simp only [cond_false] at h
    cases h2 : Nat.beq f 230 with
    | true =>
      rw [h2] at h
      obtain rfl := Nat.eq_of_beq_eq_true h2
      simp only [cond_true] at h
      split at h
      · exact knIdx_ok h
      · cases h
    | false => rw [h2] at h; cases h

def spWS (s : List AObj) : List AV → Option (AV × List AObj × Nat)
  | [.ptr id 0, .d (.sc (.string b))] => (spGet s id).bind fun p => (spBuf s id p.1 b.data.toList p.2).map fun s' => (.d (.tup [.sc (.int .i64 b.size), .sc .nilIface]), s', 2)
  | _ => none
def spWB (s : List AObj) : List AV → Option (AV × List AObj × Nat)
  | [.ptr id 0, .d (.sc (.int .u8 c))] => if 0 ≤ c ∧ c < 256 then (spGet s id).bind fun p => (spBuf s id p.1 [UInt8.ofNat c.toNat] p.2).map fun s' => (.d (.sc .nilIface), s', 2) else none
  | _ => none
def spSt (s : List AObj) : List AV → Option (AV × List AObj × Nat)
  | [.ptr id 0] => (spStr s id).map fun p => (.d (.sc (.string p.1)), p.2, 2)
  | _ => none
def spCl (s : List AObj) : List AV → Option (AV × List AObj × Nat)
  | [.d (.sl n [])] => some (.emp n, s, 2)
  | _ => none
def spIn (s : List AObj) : List AV → Option (AV × List AObj × Nat)
  | [.vec id n 37, .d (.sc (.int .i64 i)), .vec id2 1 37] => (vecAt s id n).bind fun ds => (vecAt s id2 1).bind fun es => if id ≠ id2 ∧ 0 ≤ i ∧ i.toNat ≤ n ∧ n ≤ 100000 then some (.vec id (n + 1) 37, s.set id (.vec 98 37 (ds.take (i.toNat * 37) ++ es ++ ds.drop (i.toNat * 37))), 5 + 2 * id) else none
  | [.nil n, .d (.sc (.int .i64 0)), .vec id2 1 37] => (vecAt s id2 1).map fun es => (.vec s.length 1 37, s ++ [.vec 98 37 es], 3)
  | [.emp n, .d (.sc (.int .i64 0)), .vec id2 1 37] => (vecAt s id2 1).map fun es => (.vec s.length 1 37, s ++ [.vec 98 37 es], 3)
  | _ => none
def sp1 (f : Nat) (xs : List AV) (s : List AObj) : Option (AV × List AObj × Nat) :=
  bif Nat.beq f 253 then spWS s xs else bif Nat.beq f 254 then spWB s xs else bif Nat.beq f 244 then spSt s xs else
  bif Nat.beq f 55 || Nat.beq f 140 then spCl s xs else bif Nat.beq f 62 then spIn s xs else none

/-- What is told of a run. -/
def SpOk (f : FuncId) (xs : List AV) (s : List AObj) (d : AV) (s' : List AObj) (fl : Nat) : Prop :=
  (fl = 2 ∧ FnRuns (LLc Tryz.prog) Tryz.prog f xs s d s') ∨ (∃ id, fl = 5 + 2 * id ∧ SetAt id s s' ∧ FnRuns (LLc Tryz.prog) Tryz.prog f xs s d s') ∨ (fl = 3 ∧ ∃ ys, s' = s ++ ys ∧ ∀ s2, Agrees s s2 → Holes s2 s.length ys.length → FnRuns (LLc Tryz.prog) Tryz.prog f xs s2 d (fill s2 s.length ys))

theorem spWS_ok {s : List AObj} {xs : List AV} {d : AV} {s' : List AObj} {fl : Nat} (h : spWS s xs = some (d, s', fl)) : SpOk 253 xs s d s' fl := by
  unfold spWS at h
  split at h
  · obtain ⟨p, h1, h2⟩ := bindI h
    obtain ⟨s2, h3, h4⟩ := mapI h2
    cases h4
    exact .inl ⟨rfl, WriteString_runs h1 h3⟩
  · cases h
theorem spWB_ok {s : List AObj} {xs : List AV} {d : AV} {s' : List AObj} {fl : Nat} (h : spWB s xs = some (d, s', fl)) : SpOk 254 xs s d s' fl := by
  unfold spWB at h
  split at h
  · obtain ⟨hc, h0⟩ := iteI h
    obtain ⟨p, h1, h2⟩ := bindI h0
    obtain ⟨s2, h3, h4⟩ := mapI h2
    cases h4
    exact .inl ⟨rfl, WriteByte_runs hc h1 h3⟩
  · cases h
theorem spSt_ok {s : List AObj} {xs : List AV} {d : AV} {s' : List AObj} {fl : Nat} (h : spSt s xs = some (d, s', fl)) : SpOk 244 xs s d s' fl := by
  unfold spSt at h
  split at h
  · obtain ⟨p, h1, h2⟩ := mapI h
    cases h2
    exact .inl ⟨rfl, String_runs h1⟩
  · cases h
theorem spIn_ok {s : List AObj} {xs : List AV} {d : AV} {s' : List AObj} {fl : Nat} (h : spIn s xs = some (d, s', fl)) : SpOk 62 xs s d s' fl := by
  unfold spIn at h
  split at h
  · rename_i id n i id2
    obtain ⟨ds, h1, h2⟩ := bindI h
    obtain ⟨es, h3, h4⟩ := bindI h2
    obtain ⟨⟨c1, c2, c3, c4⟩, h5⟩ := iteI h4
    cases h5
    have hi : ((i.toNat : Nat) : Int) = i := by omega
    have := Insert_vec h1 h3 c1 c3 c4
    rw [hi] at this
    exact .inr (.inl ⟨id, rfl, setAt_set .., this⟩)
  · obtain ⟨es, h1, h2⟩ := mapI h
    cases h2
    exact .inr (.inr ⟨rfl, _, rfl, fun s2 hag hh => Insert_new (fun k w v hv => ⟨none, hv.nil_inv⟩) h1 hag hh⟩)
  · obtain ⟨es, h1, h2⟩ := mapI h
    cases h2
    exact .inr (.inr ⟨rfl, _, rfl, fun s2 hag hh => Insert_new (fun k w v hv => hv.emp_inv) h1 hag hh⟩)
  · cases h
theorem spCl_ok {f : FuncId} (hf : ∀ n s, FnRuns (LLc Tryz.prog) Tryz.prog f [.d (.sl n [])] s (.emp n) s) {s : List AObj} {xs : List AV} {d : AV} {s' : List AObj} {fl : Nat} (h : spCl s xs = some (d, s', fl)) : SpOk f xs s d s' fl := by
  unfold spCl at h
  split at h
  · cases h; exact .inl ⟨rfl, hf _ _⟩
  · cases h
theorem sp1_ok {f : FuncId} {xs : List AV} {s : List AObj} {d : AV} {s' : List AObj} {fl : Nat} (h : sp1 f xs s = some (d, s', fl)) : SpOk f xs s d s' fl := by
  unfold sp1 at h
  cases h1 : Nat.beq f 253 with
  | true => rw [h1] at h; obtain rfl := Nat.eq_of_beq_eq_true h1; exact spWS_ok h
  | false =>
  rw [h1] at h; simp only [cond_false] at h
  cases h2 : Nat.beq f 254 with
  | true => rw [h2] at h; obtain rfl := Nat.eq_of_beq_eq_true h2; exact spWB_ok h
  | false =>
  rw [h2] at h; simp only [cond_false] at h
  cases h3 : Nat.beq f 244 with
  | true => rw [h3] at h; obtain rfl := Nat.eq_of_beq_eq_true h3; exact spSt_ok h
  | false =>
  rw [h3] at h; simp only [cond_false] at h
  cases h4 : Nat.beq f 55 || Nat.beq f 140 with
  | true =>
    rw [h4] at h; simp only [cond_true] at h
    rcases Bool.or_eq_true_iff.1 h4 with h5 | h5
    · obtain rfl := Nat.eq_of_beq_eq_true h5; exact spCl_ok cloneInts_emp h
    · obtain rfl := Nat.eq_of_beq_eq_true h5; exact spCl_ok cloneDigests_emp h
  | false =>
  rw [h4] at h; simp only [cond_false] at h
  cases h5 : Nat.beq f 62 with
  | true => rw [h5] at h; obtain rfl := Nat.eq_of_beq_eq_true h5; exact spIn_ok h
  | false => rw [h5] at h; cases h

/-- The evaluator's surroundings over a table. -/
def envOf (l : List (Nat × CF × Nat)) : Env := ⟨findF l, kn1, sp1⟩
theorem envOf_ok {l : List (Nat × CF × Nat)} (h : TabOk Tryz.prog l) : (envOf l).Ok Tryz.prog := ⟨findF_ok h, fun _ _ _ h => kn1_ok h, fun _ _ _ _ _ _ h => sp1_ok h⟩
end Go.Proofs.Lh
