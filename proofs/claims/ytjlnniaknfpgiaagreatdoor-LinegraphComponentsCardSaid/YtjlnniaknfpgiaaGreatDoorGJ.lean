/-
  Part GJ of this claim's proof. Joined by merge.py from the texts of wip/tpl.
-/
import Derived.Test.YtjlnniaknfpgiaaGreatDoorGF
import Derived.Test.YtjlnniaknfpgiaaGreatDoorBbL
set_option linter.unusedVariables false
set_option linter.unusedSimpArgs false
set_option linter.unnecessarySimpa false
set_option linter.unusedVariables false
namespace Go.Bb
open Go Go.RowKit Go.Ab Go.Proofs.Lg

mutual
/-- Own blocks told by numbers that begin n further on. -/
def AV.shift (n : Nat) : AV → AV
  | .d x => .d x
  | .tsl id sz rows => .tsl (n + id) sz rows
  | .nil sz => .nil sz
  | .emp sz => .emp sz
  | .ptr id o => .ptr (n + id) o
  | .vec id m sz => .vec (n + id) m sz
  | .vptr id m o => .vptr (n + id) m o
  | .win id o m sz => .win (n + id) o m sz
  | .vwn id N o m sz => .vwn (n + id) N o m sz
  | .mp id => .mp (n + id)
  | .yld id => .yld (n + id)
  | .clo f fs cs => .clo f (shiftL n fs) (shiftL n cs)
  | .agg cs => .agg (shiftL n cs)
  | .tup cs => .tup (shiftL n cs)
def shiftL (n : Nat) : List AV → List AV
  | [] => []
  | x :: l => x.shift n :: shiftL n l
end
theorem shiftL_map (n : Nat) : ∀ l : List AV, shiftL n l = l.map (AV.shift n)
  | [] => by simp [shiftL]
  | x :: l => by simp [shiftL, shiftL_map n l]
theorem shiftL_len (n : Nat) (l : List AV) : (shiftL n l).length = l.length := by rw [shiftL_map, List.length_map]
theorem shiftL_get (n : Nat) {l : List AV} {i : Nat} {c : AV} (h : (shiftL n l)[i]? = some c) : ∃ x, l[i]? = some x ∧ c = x.shift n := by
  rw [shiftL_map, List.getElem?_map] at h
  obtain ⟨x, hx, rfl⟩ := Option.map_eq_some_iff.1 h
  exact ⟨x, hx, rfl⟩

/-- The own blocks of one list lie in another one, n further on. -/
def Sits (n : Nat) (o1 O : List Own) : Prop := ∀ (id : Nat) (o : Own), o1[id]? = some o → O[n + id]? = some o

theorem RA.shift {k : Cfg} {w : World} {v : Value} {x : AV} (h : RA k w v x) {n : Nat} {O : List Own} (hO : Sits n k.own O) : RA ⟨k.I, O⟩ w v (x.shift n) := by
  induction h with
  | d h => rw [AV.shift]; exact .d h
  | tsl h1 h2 => rw [AV.shift]; obtain ⟨u, n, h3, h4⟩ := h2; exact .tsl h1 ⟨u, n, hO _ _ h3, h4⟩
  | nil => rw [AV.shift]; exact .nil
  | emp => rw [AV.shift]; exact .emp
  | ptr h => rw [AV.shift]; exact .ptr (hO _ _ h)
  | vec h1 h2 => rw [AV.shift]; obtain ⟨u, n, h3, h4⟩ := h2; exact .vec h1 ⟨u, n, hO _ _ h3, h4⟩
  | vptr h => rw [AV.shift]; obtain ⟨u, n, h3, h4⟩ := h; exact .vptr ⟨u, n, hO _ _ h3, h4⟩
  | win h1 h2 h3 => rw [AV.shift]; exact .win (hO _ _ h1) h2 h3
  | vwn h1 h2 => rw [AV.shift]; obtain ⟨u, n, h3, h4⟩ := h2; exact .vwn h1 ⟨u, n, hO _ _ h3, h4⟩
  | mp h => rw [AV.shift]; exact .mp (hO _ _ h)
  | yld h => rw [AV.shift]; exact .yld (hO _ _ h)
  | clo h1 h2 _ _ i1 i2 =>
    rw [AV.shift]
    refine .clo (by rw [shiftL_len]; exact h1) (by rw [shiftL_len]; exact h2) (fun i u c hu hc => ?_) (fun i u c hu hc => ?_)
    · obtain ⟨x, hx, rfl⟩ := shiftL_get _ hc; exact i1 i u x hu hx
    · obtain ⟨x, hx, rfl⟩ := shiftL_get _ hc; exact i2 i u x hu hx
  | agg h1 h2 _ ih =>
    rw [AV.shift]
    refine .agg (by rw [shiftL_len]; exact h1) h2 (fun i u c hu hc => ?_)
    obtain ⟨x, hx, rfl⟩ := shiftL_get _ hc; exact ih i u x hu hx
  | tup h1 _ ih =>
    rw [AV.shift]
    refine .tup (by rw [shiftL_len]; exact h1) (fun i u c hu hc => ?_)
    obtain ⟨x, hx, rfl⟩ := shiftL_get _ hc; exact ih i u x hu hx
theorem RAs.shift {k : Cfg} {w : World} {us : List Value} {ds : List AV} (h : RAs k w us ds) {n : Nat} {O : List Own} (hO : Sits n k.own O) : RAs ⟨k.I, O⟩ w us (shiftL n ds) :=
  ⟨by rw [shiftL_len]; exact h.1, h.2.1, fun i u c hu hc => by obtain ⟨x, hx, rfl⟩ := shiftL_get _ hc; exact (h.2.2 i u x hu hx).shift hO⟩

def shiftFr (n : Nat) (fr : Fr) : Fr := fr.map fun p => (p.1, p.2.shift n)
theorem look_shift (n : Nat) : ∀ {fr : Fr} {t : Nat} {x : AV}, look (shiftFr n fr) t = some x → ∃ y, look fr t = some y ∧ x = y.shift n
  | [], t, x, h => by cases h
  | (u, y) :: fr, t, x, h => by
    have h' : (if u = t then some (y.shift n) else look (shiftFr n fr) t) = some x := h
    unfold look
    by_cases e : u = t
    · rw [if_pos e] at h' ⊢; exact ⟨y, rfl, (Option.some.inj h').symm⟩
    · rw [if_neg e] at h' ⊢; exact look_shift n h'
def AObj.shift (n : Nat) : AObj → AObj
  | .cells ds => .cells (shiftL n ds)
  | .tcells t ds => .tcells t (shiftL n ds)
  | .row e sz m => .row e sz m
  | .vec e sz ds => .vec e sz (shiftL n ds)
  | .map ag es => .map ag (es.map fun p => (p.1, p.2.shift n))
  | .loop l => .loop { l with fr := shiftFr n l.fr }
  | .hole => .hole
  | .junk => .junk

theorem ownsRow_base {w : World} {B B2 e sz n : Nat} {v : Value} {xs : List Value} (h : w.ownsRow B2 e sz v n xs) (hb : B ≤ B2) : w.ownsRow B e sz v n xs := by
  refine ⟨h.1, ?_⟩
  rcases h.2 with h2 | ⟨g, cap, cur, h1, h2, h3⟩
  · exact .inl h2
  · exact .inr ⟨g, cap, cur, h1, Nat.le_trans hb h2, h3⟩

theorem ObjOk.shift {LL : Nat → Code → CC → Prop} {B B2 : Nat} {k : Cfg} {w : World} (hB : B ≤ B2) {n : Nat} {O : List Own} (hO : Sits n k.own O) {x : AObj} {o : Own} (h : ObjOk LL B2 k w x o) : ObjOk LL B ⟨k.I, O⟩ w (x.shift n) o := by
  cases x with
  | cells ds =>
    cases o with
    | blk b => obtain ⟨t, us, h1, h2, h3⟩ := h; exact ⟨t, us, h1, h2.shift hO, h3⟩
    | row v n => exact h.elim
    | hole => exact h.elim
  | tcells t ds =>
    cases o with
    | blk b => obtain ⟨us, h1, h2, h3⟩ := h; exact ⟨us, h1, h2.shift hO, h3⟩
    | row v n => exact h.elim
    | hole => exact h.elim
  | row e sz m =>
    cases o with
    | blk b => exact h.elim
    | row v n => obtain ⟨h1, ⟨xs, h2⟩, h3⟩ := h; exact ⟨h1, ⟨xs, ownsG_base h2 hB⟩, h3⟩
    | hole => exact h.elim
  | vec e sz ds =>
    cases o with
    | blk b => exact h.elim
    | row v n => obtain ⟨xs, h1, h2, h3, h4⟩ := h; exact ⟨xs, ownsRow_base h1 hB, h2, by rw [shiftL_len]; exact h3, h4.shift hO⟩
    | hole => exact h.elim
  | map ag es =>
    cases o with
    | blk b =>
      obtain ⟨ents, clk, h1, ⟨m1, m2, m3⟩, h3⟩ := h
      refine ⟨ents, clk, h1, ⟨by simpa using m1, by simpa using m2, fun i e x he hx => ?_⟩, h3⟩
      rw [List.getElem?_map] at hx
      obtain ⟨y, hy, rfl⟩ := Option.map_eq_some_iff.1 hx
      obtain ⟨g1, g2, g3⟩ := m3 i e y he hy
      exact ⟨g1, g2.shift hO, g3⟩
    | row v n => exact h.elim
    | hole => exact h.elim
  | loop l =>
    cases o with
    | blk b =>
      obtain ⟨r, h1, ⟨q1, q2, q3, q4, q5⟩, h3⟩ := h
      exact ⟨r, h1, ⟨q1, q2, q3, fun t x hx => by obtain ⟨y, hy, rfl⟩ := look_shift _ hx; exact (q4 t y hy).shift hO, q5⟩, h3⟩
    | row v n => exact h.elim
    | hole => exact h.elim
  | hole =>
    cases o with
    | blk b => exact h.elim
    | row v n => exact h.elim
    | hole => trivial
  | junk => cases o <;> trivial

mutual
/-- The same without own blocks: what is own and grows is told as data. -/
def AV.free : AV → Option AV
  | .d x => some (.d x)
  | .tsl _ sz rows => some (.d (.sl sz rows))
  | .nil sz => some (.nil sz)
  | .emp sz => some (.emp sz)
  | .clo f fs cs => match freeL fs, freeL cs with
    | some a, some b => some (.clo f a b)
    | _, _ => none
  | .agg cs => match freeL cs with
    | some a => some (.agg a)
    | none => none
  | .tup cs => match freeL cs with
    | some a => some (.tup a)
    | none => none
  | .ptr _ _ => none
  | .vec _ _ _ => none
  | .vptr _ _ _ => none
  | .win _ _ _ _ => none
  | .vwn _ _ _ _ _ => none
  | .mp _ => none
  | .yld _ => none
def freeL : List AV → Option (List AV)
  | [] => some []
  | x :: l => match x.free, freeL l with
    | some y, some l' => some (y :: l')
    | _, _ => none
end
theorem freeL_get : ∀ {l l' : List AV}, freeL l = some l' → l'.length = l.length ∧ ∀ (i : Nat) (c : AV), l'[i]? = some c → ∃ x, l[i]? = some x ∧ x.free = some c
  | [], l', h => by simp [freeL] at h; subst h; simp
  | x :: l, l', h => by
    unfold freeL at h
    split at h
    · rename_i y l2 h1 h2
      cases h
      obtain ⟨k1, k2⟩ := freeL_get h2
      refine ⟨by simp [k1], fun i c hc => ?_⟩
      cases i with
      | zero => simp at hc; subst hc; exact ⟨x, rfl, h1⟩
      | succ i => exact k2 i c (by simpa using hc)
    · cases h
theorem RA.free {k : Cfg} {w : World} {v : Value} {x : AV} (h : RA k w v x) (o1 : List Own) : ∀ {y : AV}, x.free = some y → RA ⟨k.I, o1⟩ w v y := by
  induction h with
  | d h => intro y hy; rw [AV.free] at hy; cases hy; exact .d h
  | tsl h1 h2 => intro y hy; rw [AV.free] at hy; cases hy; exact .d h1
  | nil => intro y hy; rw [AV.free] at hy; cases hy; exact .nil
  | emp => intro y hy; rw [AV.free] at hy; cases hy; exact .emp
  | ptr h => intro y hy; rw [AV.free] at hy; cases hy
  | vec h1 h2 => intro y hy; rw [AV.free] at hy; cases hy
  | vptr h => intro y hy; rw [AV.free] at hy; cases hy
  | win h1 h2 h3 => intro y hy; rw [AV.free] at hy; cases hy
  | vwn h1 h2 => intro y hy; rw [AV.free] at hy; cases hy
  | mp h => intro y hy; rw [AV.free] at hy; cases hy
  | yld h => intro y hy; rw [AV.free] at hy; cases hy
  | clo h1 h2 _ _ i1 i2 =>
    intro y hy
    rw [AV.free] at hy
    split at hy
    · rename_i a b ha hb
      cases hy
      obtain ⟨l1, l2⟩ := freeL_get ha
      obtain ⟨m1, m2⟩ := freeL_get hb
      refine .clo (h1.trans l1.symm) (h2.trans m1.symm) (fun i u c hu hc => ?_) (fun i u c hu hc => ?_)
      · obtain ⟨x, hx, hf⟩ := l2 i c hc; exact i1 i u x hu hx hf
      · obtain ⟨x, hx, hf⟩ := m2 i c hc; exact i2 i u x hu hx hf
    · cases hy
  | agg h1 h2 _ ih =>
    intro y hy
    rw [AV.free] at hy
    split at hy
    · rename_i a ha
      cases hy
      obtain ⟨l1, l2⟩ := freeL_get ha
      refine .agg (h1.trans l1.symm) h2 (fun i u c hu hc => ?_)
      obtain ⟨x, hx, hf⟩ := l2 i c hc; exact ih i u x hu hx hf
    · cases hy
  | tup h1 _ ih =>
    intro y hy
    rw [AV.free] at hy
    split at hy
    · rename_i a ha
      cases hy
      obtain ⟨l1, l2⟩ := freeL_get ha
      refine .tup (h1.trans l1.symm) (fun i u c hu hc => ?_)
      obtain ⟨x, hx, hf⟩ := l2 i c hc; exact ih i u x hu hx hf
    · cases hy

/-- What a call lays on the empty store it lays where there are holes, or behind any other. -/
theorem FnRuns.frameAt {LL : Nat → Code → CC → Prop} {P : Program} {f : FuncId} {xs xs' : List AV} {d : AV} {s' : List AObj} (h : FnRuns LL P f xs' [] d s') (hx : freeL xs = some xs') {s : List AObj} {n : Nat} (hn : Holes s n s'.length) : FnRuns LL P f xs s (d.shift n) (fill s n (s'.map (AObj.shift n))) := by
  refine ⟨h.enters, fun B k w vs hst hvs => ?_⟩
  obtain ⟨l1, l2⟩ := freeL_get hx
  have hst0 : St LL w.heap.size ⟨k.I, []⟩ [] w := ⟨Nat.le_refl _, rfl, by simp, by simp, by simp⟩
  refine Calls.mono (h.calls w.heap.size ⟨k.I, []⟩ w vs hst0 ⟨hvs.1.trans l1.symm, fun i u c hu hc => ?_⟩) ?_
  · obtain ⟨x, hx1, hx2⟩ := l2 i c hc
    exact (hvs.2 i u x hu hx1).free [] hx2
  · rintro e w' ⟨v, k', rfl, hv, he, hs⟩
    have hlen : k'.own.length = (s'.map (AObj.shift n)).length := by rw [List.length_map]; exact hs.len
    have hn' : Holes s n (s'.map (AObj.shift n)).length := by rw [List.length_map]; exact hn
    have hsits : Sits n k'.own (fill k.own n k'.own) := fun id o ho => by
      rw [fill_get k'.own (by rw [hst.len]; exact hn.le), if_neg (by omega), if_pos (by have := (List.getElem?_eq_some_iff.1 ho).1; omega), Nat.add_sub_cancel_left]
      exact ho
    obtain ⟨g1, g2⟩ := hst.fill he.below (I' := k'.I) (fun b hb => he.low b hb) k'.own (s'.map (AObj.shift n)) hlen hn' (fun i o b ho hb => hs.lies i o b ho hb) (fun i j o o' b hij ho ho' hb => hs.apart i j o o' b hij ho ho' hb)
      fun _ i o x ho hx => by
        rw [List.getElem?_map] at hx
        obtain ⟨y, hy, rfl⟩ := Option.map_eq_some_iff.1 hx
        exact (hs.obj i y o hy ho).shift hst.base hsits
    exact ⟨v, _, rfl, hv.shift hsits, g1, g2⟩
/-- What a call lays on the empty store it lays behind any other. -/
theorem FnRuns.frame {LL : Nat → Code → CC → Prop} {P : Program} {f : FuncId} {xs xs' : List AV} {d : AV} {s' : List AObj} (h : FnRuns LL P f xs' [] d s') (hx : freeL xs = some xs') (s : List AObj) : FnRuns LL P f xs s (d.shift s.length) (s ++ s'.map (AObj.shift s.length)) := by
  have := h.frameAt hx (s := s) (Holes.end' s s'.length)
  rw [fill_end] at this
  exact this
end Go.Bb

set_option linter.unusedVariables false
namespace Go.Bb
open Go Go.RowKit Go.Ab Go.Proofs.Lg

def mapO {α β : Type} (g : α → Option β) : List α → Option (List β)
  | [] => some []
  | x :: l => match g x, mapO g l with
    | some y, some l' => some (y :: l')
    | _, _ => none
theorem mapO_get {α β : Type} {g : α → Option β} : ∀ {l : List α} {l' : List β}, mapO g l = some l' → l'.length = l.length ∧ ∀ (i : Nat) (x : α), l[i]? = some x → ∃ y, l'[i]? = some y ∧ g x = some y
  | [], l', h => by simp [mapO] at h; subst h; simp
  | x :: l, l', h => by
    unfold mapO at h
    split at h
    · rename_i y l2 h1 h2
      obtain rfl := Option.some.inj h
      obtain ⟨k1, k2⟩ := mapO_get h2
      refine ⟨by simp [k1], fun i z hz => ?_⟩
      cases i with
      | zero => simp at hz; subst hz; exact ⟨y, rfl, h1⟩
      | succ i => exact k2 i z (by simpa using hz)
    · cases h
theorem mapO_some {α β : Type} {g : α → Option β} {h : α → β} : ∀ {l : List α}, (∀ x ∈ l, g x = some (h x)) → mapO g l = some (l.map h)
  | [], _ => rfl
  | x :: l, hx => by
    unfold mapO
    rw [hx x (by simp), mapO_some fun y hy => hx y (by simp [hy])]; rfl

/-- The data of what is returned: own rows are not written any more. -/
def deepD (s : List AObj) : Nat → AV → Option D
  | 0, _ => none
  | f + 1, .vec id n sz => match s[id]? with
    | some (.vec _ sz2 ds) => if sz2 = sz ∧ 0 < sz ∧ ds.length = n * sz then (mapO (deepD s f) ds).map fun es => .sl sz (chunk sz n es) else none
    | _ => none
  | f + 1, .vwn id N off n sz => match s[id]? with
    | some (.vec _ sz2 ds) => if sz2 = sz ∧ 0 < sz ∧ ds.length = N * sz ∧ off + n ≤ N then (mapO (deepD s f) ((ds.drop (off * sz)).take (n * sz))).map fun es => .sl sz (chunk sz n es) else none
    | _ => none
  | f + 1, .win id off n sz => match s[id]? with
    | some (.cells ds) => if off + n * sz ≤ ds.length then (mapO (deepD s f) ((ds.drop off).take (n * sz))).map fun es => .sl sz (chunk sz n es) else none
    | _ => none
  | f + 1, .ptr id off => match s[id]? with
    | some (.cells ds) => (mapO (deepD s f) (ds.drop off)).map .ref
    | _ => none
  | f + 1, .agg cs => (mapO (deepD s f) cs).map .agg
  | f + 1, .tup cs => (mapO (deepD s f) cs).map .tup
  | _ + 1, x => x.toL

/-- At a call's end all that it owns is never written again. -/
theorem deepD_ok {LL : Nat → Code → CC → Prop} {B : Nat} {k : Cfg} {s : List AObj} {w : World} (hs : St LL B k s w) {I' : Nat → Nat} (hk : KeepI k.I w I' w) (hB : ∀ b o u, B ≤ b → w.cell? ⟨b, o, none⟩ = some u → o < I' b) : ∀ (f : Nat) (x : AV) (d : D) (v : Value), deepD s f x = some d → RA k w v x → RD I' w v d
  | 0, x, d, v, h, _ => by simp [deepD] at h
  | f + 1, x, d, v, h, hv => by
    have vals : ∀ (us : List Value) (cs : List AV) (es : List D), RVs k w us cs → mapO (deepD s f) cs = some es → us.length = es.length ∧ ∀ (i : Nat) (u : Value) (d : D), us[i]? = some u → es[i]? = some d → RD I' w u d := fun us cs es h1 h2 => by
      obtain ⟨k1, k2⟩ := mapO_get h2
      refine ⟨h1.1.trans k1.symm, fun i u e hu he => ?_⟩
      obtain ⟨hi, _⟩ := List.getElem?_eq_some_iff.1 he
      have hc : cs[i]? = some cs[i] := List.getElem?_eq_getElem (by omega)
      obtain ⟨e', h3, h4⟩ := k2 i _ hc
      rw [he] at h3; cases h3
      exact deepD_ok hs hk hB f _ _ u h4 (h1.2 i u _ hu hc)
    have cells : ∀ (us : List Value) (cs : List AV) (es : List D), RAs k w us cs → mapO (deepD s f) cs = some es → RDs I' w us es := fun us cs es h1 h2 =>
      let ⟨g1, g2⟩ := vals us cs es h1.rvs h2; ⟨g1, h1.2.1, g2⟩
    have leaf : ∀ y, x = y → x.toL = some d → RA k w v x → RD I' w v d := fun y _ h1 h2 => (h2.toL h1).mono hk
    cases x with
    | agg cs =>
      obtain ⟨us, rfl, h2⟩ := hv.agg_inv
      obtain ⟨es, hes, rfl⟩ := map_inv (show (mapO (deepD s f) cs).map D.agg = some d from h)
      have h3 := cells us cs es h2 hes
      exact .agg us es h3.1 h3.2.1 h3.2.2
    | tup cs =>
      obtain ⟨us, rfl, h2⟩ := hv.tup_inv
      obtain ⟨es, hes, rfl⟩ := map_inv (show (mapO (deepD s f) cs).map D.tup = some d from h)
      have h3 := vals us cs es h2 hes
      exact .tup us es h3.1 h3.2
    | ptr id off =>
      simp only [deepD] at h
      split at h
      · rename_i ds hid
        obtain ⟨es, hes, rfl⟩ := map_inv h
        obtain ⟨b, hb, rfl⟩ := hv.ptr_inv
        obtain ⟨b', t', us, g1, g2, g3, _⟩ := hs.cells hid
        rw [hb] at g1; cases g1
        have h5 := cells _ _ es (g3.drop off) hes
        refine .ref _ _ _ _ h5.1 h5.2.1 (fun i u hu => ?_) h5.2.2
        rw [List.getElem?_drop] at hu
        have hc : w.cell? ⟨b, off + i, none⟩ = some u := by rw [cells_at g2]; exact hu
        exact ⟨hB _ _ _ (hs.lies id _ b hb rfl).1 hc, hc⟩
      · cases h
    | win id off n sz =>
      simp only [deepD] at h
      split at h
      · rename_i ds hid
        split at h
        · rename_i hle
          obtain ⟨es, hes, rfl⟩ := map_inv h
          obtain ⟨b, c, hb, rfl, hnc, hcm⟩ := hv.win_inv
          obtain ⟨b', t', us, g1, g2, g3, _⟩ := hs.cells hid
          rw [hb] at g1; cases g1
          have h5 := cells _ _ es ((g3.drop off).take (n * sz)) hes
          have hl := (mapO_get hes).1
          obtain ⟨hf1, hf2⟩ := chunk_flat sz n es (by rw [hl]; simp; omega)
          refine RD.sl_mk (chunk_len sz n es) hf2 hnc hcm (by rw [hf1]; exact h5) fun _ => ⟨b, off, rfl, fun i u hu => ?_⟩
          rw [List.getElem?_take] at hu
          split at hu
          · rw [List.getElem?_drop] at hu
            have hc : w.cell? ⟨b, off + i, none⟩ = some u := by rw [cells_at g2]; exact hu
            exact ⟨hB _ _ _ (hs.lies id _ b hb rfl).1 hc, hc⟩
          · cases hu
        · cases h
      · cases h
    | vec id n sz =>
      simp only [deepD] at h
      split at h
      · rename_i e sz2 ds hid
        split at h
        · rename_i hcc
          obtain ⟨rfl, c0, c1⟩ := hcc
          obtain ⟨es, hes, rfl⟩ := map_inv h
          obtain ⟨_, u, n', hku, hle, heq⟩ := hv.vec_inv
          obtain ⟨v2, n2, xs, g1, hown, hI, g4, hxs⟩ := hs.vec hid
          rw [hku] at g1; cases g1
          have hnn : n = n' := by
            rw [c1] at g4
            exact Nat.eq_of_mul_eq_mul_right c0 g4
          subst hnn
          rw [heq rfl]
          have h3 := cells xs ds es hxs hes
          have hl := (mapO_get hes).1
          obtain ⟨hf1, hf2⟩ := chunk_flat sz2 n es (by omega)
          rcases hown.2 with ⟨hv', h0⟩ | ⟨g, cap, cur, hv', hbg, hg, hnc, hcm, hcs, htake⟩
          · subst hv'; subst h0
            exact RD.sl_mk (us := []) rfl (by simp [chunk]) (by omega) (by omega) ⟨by simp [chunk], by simp, by simp⟩ (by simp [chunk])
          · rw [hv']
            refine RD.sl_mk (chunk_len sz2 n es) hf2 hnc (by unfold maxLen at hcm; omega) (by rw [hf1]; exact h3) fun _ => ⟨g, 0, rfl, fun i x hx => ?_⟩
            have := hown.cells (g := g) (by rw [hv']; rfl) i x hx
            rw [Addr.add_mid] at this
            exact ⟨hB _ _ _ hbg this, this⟩
        · cases h
      · cases h
    | vwn id N off n sz =>
      simp only [deepD] at h
      split at h
      · rename_i e sz2 ds hid
        split at h
        · rename_i hcc
          obtain ⟨rfl, c0, c1, c2⟩ := hcc
          obtain ⟨es, hes, rfl⟩ := map_inv h
          obtain ⟨_, u, n', hku, hle, heq⟩ := hv.vwn_inv
          obtain ⟨v2, n2, xs, g1, hown, hI, g4, hxs⟩ := hs.vec hid
          rw [hku] at g1; cases g1
          have hnn : N = n' := by
            rw [c1] at g4
            exact Nat.eq_of_mul_eq_mul_right c0 g4
          subst hnn
          obtain ⟨b, c, hu0, hvv, hnc, hcm⟩ := heq rfl
          have hub : u.ownBlock = some b := by rw [hu0]; rfl
          rw [hvv]
          have h3 := cells _ _ es ((hxs.drop (off * sz2)).take (n * sz2)) hes
          have hl := (mapO_get hes).1
          have hfit : off * sz2 + n * sz2 ≤ N * sz2 := by rw [← Nat.add_mul]; exact Nat.mul_le_mul_right _ c2
          obtain ⟨hf1, hf2⟩ := chunk_flat sz2 n es (by rw [hl]; simp; omega)
          refine RD.sl_mk (chunk_len sz2 n es) hf2 hnc hcm (by rw [hf1]; exact h3) fun _ => ⟨b, off * sz2, rfl, fun i x hx => ?_⟩
          rw [List.getElem?_take] at hx
          split at hx
          · rw [List.getElem?_drop] at hx
            have hc := hown.cells hub _ x hx
            rw [Addr.add_mid, Nat.zero_add] at hc
            exact ⟨hB _ _ _ (hs.lies id _ b hku hub).1 hc, hc⟩
          · cases hx
        · cases h
      · cases h
    | d y => exact leaf _ rfl (by simpa [deepD] using h) hv
    | tsl id sz rows => exact leaf _ rfl (by simpa [deepD] using h) hv
    | nil sz => exact leaf _ rfl (by simpa [deepD] using h) hv
    | emp sz => exact leaf _ rfl (by simpa [deepD] using h) hv
    | _ => exact leaf _ rfl (by simpa [deepD] using h) hv

theorem AFn.of_runs {P : Program} {LL : Nat → Code → CC → Prop} {f : FuncId} {ds : List D} {x : AV} {s' : List AObj} {r : D} (h : FnRuns LL P f (ds.map .d) [] x s') (hr : deepD s' 5 x = some r) : AFn P f ds r := by
  refine ⟨h.enters, fun I w vs hl hvs => ?_⟩
  have hst : St LL w.heap.size ⟨I, []⟩ [] w := ⟨Nat.le_refl _, rfl, by simp, by simp, by simp⟩
  refine Calls.mono (h.calls w.heap.size ⟨I, []⟩ w vs hst ⟨by simp [hl], fun i u c hu hc => ?_⟩) ?_
  · rw [List.getElem?_map] at hc
    obtain ⟨d, hd, rfl⟩ := Option.map_eq_some_iff.1 hc
    exact .d (hvs i u d hu hd)
  · rintro e w' ⟨v, k', rfl, hv, he, hs⟩
    refine ⟨v, rfl, deepD_ok hs (I' := bigI I w.heap.size w') (fun b q u hb hc => ⟨?_, hc⟩) (fun b q u hb hc => ?_) 5 x r v hr hv, he.below⟩
    · by_cases hlt : b < w.heap.size
      · rw [bigI_lt _ _ hlt]; have := he.low b hlt; rw [this] at hb; exact hb
      · unfold bigI; rw [if_neg hlt]; exact lt_cellsIn hc
    · unfold bigI; rw [if_neg (by omega)]; exact lt_cellsIn hc

/-- A function does what its code as data says. -/
theorem AFn_of {P : Program} {mus : List Nat} {f : FuncId} {F : CF} (hc : compFn P mus f = some F.erase) {args : List D} {r : D} (hargs : args.length ≤ F.n) (h : wpK P none F.body (RetQ F.res fun x s => deepD s 5 x = some r) (argF 0 (args.map .d)) []) : AFn P f args r :=
  let ⟨_, _, h1, h2⟩ := FnK.of hc (by simpa using hargs) h; AFn.of_runs h1 h2
theorem AFn_of' {P : Program} {f : FuncId} {args : List D} {r : D} (h : FnK P f (args.map .d) [] fun x s => deepD s 5 x = some r) : AFn P f args r :=
  let ⟨_, _, h1, h2⟩ := h; AFn.of_runs h1 h2

/-! ### Calls on what is own, of functions on data that return scalars -/

def isScD : D → Bool
  | .sc _ => true
  | _ => false
def flatD : D → Bool
  | .sc _ => true
  | .agg cs => cs.all isScD
  | .tup cs => cs.all isScD
  | _ => false
theorem RD_sc_any {I I' : Nat → Nat} {w w' : World} {v : Value} {r : D} (h : RD I w v r) (hr : isScD r = true) : RD I' w' v r := by
  cases h with
  | sc => exact .sc _
  | _ => cases hr
theorem RD_flat_any {I I' : Nat → Nat} {w w' : World} {v : Value} {r : D} (h : RD I w v r) (hr : flatD r = true) : RD I' w' v r := by
  cases h with
  | sc => exact .sc _
  | agg us ds h1 h2 h3 => exact .agg us ds h1 h2 fun i u d hu hd => RD_sc_any (h3 i u d hu hd) (List.all_eq_true.1 hr d (List.mem_of_getElem? hd))
  | tup us ds h1 h3 => exact .tup us ds h1 fun i u d hu hd => RD_sc_any (h3 i u d hu hd) (List.all_eq_true.1 hr d (List.mem_of_getElem? hd))
  | _ => cases hr

theorem mapO_of {α β : Type} {g : α → Option β} : ∀ {l : List α} {l' : List β}, l'.length = l.length → (∀ (i : Nat) (x : α), l[i]? = some x → ∃ y, l'[i]? = some y ∧ g x = some y) → mapO g l = some l'
  | [], [], _, _ => rfl
  | [], _ :: _, h, _ => by simp at h
  | _ :: _, [], h, _ => by simp at h
  | x :: l, y :: l', h, hx => by
    obtain ⟨z, h1, h2⟩ := hx 0 x rfl
    cases h1
    unfold mapO
    rw [h2, mapO_of (l := l) (l' := l') (by simpa using h) fun i u hu => hx (i + 1) u (by simpa using hu)]
/-- What is read deep is the same in another store that holds the same where both hold something. -/
theorem deepD_agrees {LL : Nat → Code → CC → Prop} {B : Nat} {k : Cfg} {s s2 : List AObj} {w : World} (hs : St LL B k s2 w) (ha : Agrees s s2) : ∀ (f : Nat) (x : AV) (d : D) (v : Value), deepD s f x = some d → RA k w v x → deepD s2 f x = some d
  | 0, x, d, v, h, _ => by simp [deepD] at h
  | f + 1, x, d, v, h, hv => by
    have vals : ∀ (us : List Value) (cs : List AV) (es : List D), RVs k w us cs → mapO (deepD s f) cs = some es → mapO (deepD s2 f) cs = some es := fun us cs es h1 h2 => by
      obtain ⟨k1, k2⟩ := mapO_get h2
      refine mapO_of k1 fun i c hc => ?_
      obtain ⟨e, h3, h4⟩ := k2 i c hc
      have hi := (List.getElem?_eq_some_iff.1 hc).1
      have hlen := h1.1
      have hu : us[i]? = some us[i] := List.getElem?_eq_getElem (by omega)
      exact ⟨e, h3, deepD_agrees hs ha f _ _ _ h4 (h1.2 i _ c hu hc)⟩
    have same : ∀ (id : Nat) (o : AObj), x.hdl = some id → s[id]? = some o → s2[id]? = some o := fun id o hh ho => by
      exact agree_get hs ha hv hh ho
    cases x with
    | agg cs =>
      obtain ⟨us, rfl, h2⟩ := hv.agg_inv
      obtain ⟨es, hes, rfl⟩ := map_inv (show (mapO (deepD s f) cs).map D.agg = some d from h)
      show (mapO (deepD s2 f) cs).map D.agg = _
      rw [vals us cs es h2.rvs hes]; rfl
    | tup cs =>
      obtain ⟨us, rfl, h2⟩ := hv.tup_inv
      obtain ⟨es, hes, rfl⟩ := map_inv (show (mapO (deepD s f) cs).map D.tup = some d from h)
      show (mapO (deepD s2 f) cs).map D.tup = _
      rw [vals us cs es h2 hes]; rfl
    | ptr id off =>
      simp only [deepD] at h ⊢
      split at h
      · rename_i ds hid
        rw [same id _ rfl hid]
        obtain ⟨es, hes, rfl⟩ := map_inv h
        obtain ⟨b', t', us, g1, g2, g3, _⟩ := hs.cells (same id _ rfl hid)
        show (mapO (deepD s2 f) (ds.drop off)).map D.ref = _
        rw [vals _ _ es (g3.drop off).rvs hes]; rfl
      · cases h
    | win id off n sz =>
      simp only [deepD] at h ⊢
      split at h
      · rename_i ds hid
        split at h
        · rename_i hle
          rw [same id _ rfl hid]
          obtain ⟨es, hes, rfl⟩ := map_inv h
          obtain ⟨b', t', us, g1, g2, g3, _⟩ := hs.cells (same id _ rfl hid)
          show (if off + n * sz ≤ ds.length then (mapO (deepD s2 f) ((ds.drop off).take (n * sz))).map (fun es => D.sl sz (chunk sz n es)) else none) = _
          rw [if_pos hle, vals _ _ es ((g3.drop off).take (n * sz)).rvs hes]; rfl
        · cases h
      · cases h
    | vec id n sz =>
      simp only [deepD] at h ⊢
      split at h
      · rename_i e sz2 ds hid
        split at h
        · rename_i hcc
          rw [same id _ rfl hid]
          obtain ⟨es, hes, rfl⟩ := map_inv h
          obtain ⟨v2, n2, xs, g1, hown, hI, g4, hxs⟩ := hs.vec (same id _ rfl hid)
          show (if sz2 = sz ∧ 0 < sz ∧ ds.length = n * sz then (mapO (deepD s2 f) ds).map (fun es => D.sl sz (chunk sz n es)) else none) = _
          rw [if_pos hcc, vals _ _ es hxs.rvs hes]; rfl
        · cases h
      · cases h
    | vwn id N off n sz =>
      simp only [deepD] at h ⊢
      split at h
      · rename_i e sz2 ds hid
        split at h
        · rename_i hcc
          rw [same id _ rfl hid]
          obtain ⟨es, hes, rfl⟩ := map_inv h
          obtain ⟨v2, n2, xs, g1, hown, hI, g4, hxs⟩ := hs.vec (same id _ rfl hid)
          show (if sz2 = sz ∧ 0 < sz ∧ ds.length = N * sz ∧ off + n ≤ N then (mapO (deepD s2 f) ((ds.drop (off * sz)).take (n * sz))).map (fun es => D.sl sz (chunk sz n es)) else none) = _
          rw [if_pos hcc, vals _ _ es ((hxs.drop (off * sz)).take (n * sz)).rvs hes]; rfl
        · cases h
      · cases h
    | _ => simpa [deepD] using h

theorem AFn.deepR {P : Program} {LL : Nat → Code → CC → Prop} {f : FuncId} {ds : List D} {r : D} (h : AFn P f ds r) {xs : List AV} {s s2 : List AObj} (hx : mapO (deepD s 5) xs = some ds) (ha : Agrees s s2) (hr : flatD r = true) : FnRuns LL P f xs s2 (.d r) s2 := by
  refine ⟨h.enters, fun B k w vs hst hvs => ?_⟩
  obtain ⟨l1, l2⟩ := mapO_get hx
  refine Calls.mono (h.calls (cellsIn w) w vs (by rw [hvs.1, l1]) fun i v d hv hd => ?_) ?_
  · obtain ⟨hi, _⟩ := List.getElem?_eq_some_iff.1 hd
    have hc : xs[i]? = some xs[i] := List.getElem?_eq_getElem (by omega)
    obtain ⟨d', h3, h4⟩ := l2 i _ hc
    rw [hd] at h3; cases h3
    have hra := hvs.2 i v _ hv hc
    exact deepD_ok hst (I' := cellsIn w) (fun b o u _ hcell => ⟨lt_cellsIn hcell, hcell⟩) (fun b o u _ hcell => lt_cellsIn hcell) 5 _ _ v (deepD_agrees hst ha 5 _ _ v h4 hra) hra
  · rintro e w' ⟨v, rfl, hv, hb⟩
    exact ⟨v, ⟨bigI k.I w.heap.size w', k.own⟩, rfl, .d (RD_flat_any hv hr), Ext.called hst.base hb, hst.called hb⟩
theorem AFn.deep {P : Program} {LL : Nat → Code → CC → Prop} {f : FuncId} {ds : List D} {r : D} (h : AFn P f ds r) {xs : List AV} {s : List AObj} (hx : mapO (deepD s 5) xs = some ds) (hr : flatD r = true) : FnRuns LL P f xs s (.d r) s := h.deepR hx (Agrees.refl s) hr
/-- A call that reads what is own and returns scalars. -/
theorem CallM.reads {P : Program} {f : FuncId} {fs cs vs : List AV} {s : List AObj} {K : AV → List AObj → Nat → Prop} {ds : List D} {r : D} (h : AFn P f ds r) (hd : mapO (deepD s 5) (fs ++ vs ++ cs) = some ds) (hr : flatD r = true) (hk : K (.d r) s 1) : CallM P (.clo f fs cs) vs s K :=
  .inr (.inr (.inl ⟨_, fun s2 ha => h.deepR hd ha hr, hk⟩))
theorem CallM.deep {P : Program} {f : FuncId} {fs cs vs : List AV} {s : List AObj} {K : AV → List AObj → Nat → Prop} {ds : List D} {r : D} (h : AFn P f ds r) (hd : mapO (deepD s 5) (fs ++ vs ++ cs) = some ds) (hr : flatD r = true) (hk : K (.d r) s 2) : CallM P (.clo f fs cs) vs s K :=
  .inr (.inl ⟨_, _, AFn.deep h hd hr, hk⟩)

/-- What a call comes to on the empty store, told as data, it comes to on any. -/
theorem FnRuns.frameD {P : Program} {LL : Nat → Code → CC → Prop} {f : FuncId} {xs xs' : List AV} {d : AV} {s' : List AObj} {r : D} (h : FnRuns LL P f xs' [] d s') (hx : freeL xs = some xs') (hr : deepD s' 5 d = some r) (s : List AObj) : FnRuns LL P f xs s (.d r) s := by
  refine ⟨h.enters, fun B k w vs hst hvs => ?_⟩
  obtain ⟨l1, l2⟩ := freeL_get hx
  have hst0 : St LL w.heap.size ⟨k.I, []⟩ [] w := ⟨Nat.le_refl _, rfl, by simp, by simp, by simp⟩
  refine Calls.mono (h.calls w.heap.size ⟨k.I, []⟩ w vs hst0 ⟨hvs.1.trans l1.symm, fun i u c hu hc => ?_⟩) ?_
  · obtain ⟨x, hx1, hx2⟩ := l2 i c hc
    exact (hvs.2 i u x hu hx1).free [] hx2
  · rintro e w' ⟨v, k', rfl, hv, he, hs⟩
    refine ⟨v, ⟨bigI k.I w.heap.size w', k.own⟩, rfl, .d ?_, Ext.called hst.base he.below, hst.called he.below⟩
    refine deepD_ok hs (I' := bigI k.I w.heap.size w') (fun b q u hb hc => ⟨?_, hc⟩) (fun b q u hb hc => ?_) 5 d r v hr hv
    · by_cases hlt : b < w.heap.size
      · rw [bigI_lt _ _ hlt]; have := he.low b hlt; rw [this] at hb; exact hb
      · unfold bigI; rw [if_neg hlt]; exact lt_cellsIn hc
    · unfold bigI; rw [if_neg (by omega)]; exact lt_cellsIn hc
end Go.Bb

namespace Go.Ab
theorem beqT (b : Bool) : (b == true) = b := by cases b <;> rfl
theorem beqF (b : Bool) : (b == false) = !b := by cases b <;> rfl
end Go.Ab
namespace Go.Proofs.Lg
theorem getJ0 {α : Type} (J K : List α) : (J ++ K)[J.length]? = K[0]? := by simp [List.getElem?_append_right]
theorem getJn {α : Type} (J K : List α) (n : Nat) : (J ++ K)[J.length + n]? = K[n]? := by simp [List.getElem?_append_right]
theorem setJ0 {α : Type} (J K : List α) (x : α) : (J ++ K).set J.length x = J ++ K.set 0 x := by simp [List.set_append_right]
theorem setJn {α : Type} (J K : List α) (n : Nat) (x : α) : (J ++ K).set (J.length + n) x = J ++ K.set n x := by simp [List.set_append_right]
theorem zleN (k : Nat) : (((0 : Nat) : Int) ≤ (k : Int)) = True := eq_true (by omega)
end Go.Proofs.Lg
namespace Go.Bb
open Go Go.Ab
def o0 (d : Nat) (i : CI) : CO := ⟨some d, none, i⟩
def om (d t : Nat) : CO := ⟨some d, none, .mov (.t t)⟩
def og (d t : Nat) (b : Bool) (i : CI) : CO := ⟨some d, some (some t, b), i⟩
def oh (d t : Nat) (b : Bool) (n : Nat) : CO := ⟨some d, some (some t, b), .mov (.t n)⟩
def oN (i : CI) : CO := ⟨none, none, i⟩
def xi (n : Int) : X := .c (.d (.sc (.int .i64 n)))
def fo (l : List CO) : CC := .ops false [] l
end Go.Bb
namespace Go.Bb
open Go Go.Ab Go.Proofs.Lg


end Go.Bb

namespace Go.Bb
open Go Go.Ab Go.Proofs.Lg
theorem ai {a b : Prop} (h : a) (k : b) : a ∧ b := ⟨h, k⟩
def wx0 := PLift.up (ai (ai (ai (ai (ai (ai (ai (ai @decide_true @wpK_skip) (ai @wpK_ops (ai @wpK_seq @wpK_cond))) (ai (ai @wpK_block (ai @wpK_loop @wpK_exit)) (ai @wpK_ret (ai @wpC_nil @CallQ_eq))))
 (ai (ai (ai @wpC_cons (ai @gdC.eq_1 @gdC.eq_2)) (ai @gdC.eq_3 (ai @OpsQ.eq_1 @CI.sem.eq_1))) (ai (ai @CI.sem.eq_2 (ai @CI.sem.eq_3 @CI.sem.eq_4)) (ai @CI.sem.eq_5 (ai @CI.sem.eq_6
 @CI.sem.eq_7))))) (ai (ai (ai (ai @CI.sem.eq_8 (ai @CI.sem.eq_9 @CI.sem.eq_10)) (ai @CI.sem.eq_11 (ai @CI.sem.eq_12 @CI.sem.eq_13))) (ai (ai @CI.sem.eq_14 (ai @CI.sem.eq_15
 @CI.sem.eq_16)) (ai @CI.sem.eq_17 (ai @CI.sem.eq_18 @CI.sem.eq_19)))) (ai (ai (ai @CI.sem.eq_20 (ai @CI.sem.eq_21 @CI.sem.eq_22)) (ai @CI.sem.eq_23 (ai @CI.sem.eq_24
 @CI.sem.eq_25))) (ai (ai @CI.sem.eq_26 (ai @CI.sem.eq_27 @CI.sem.eq_28)) (ai @CI.sem.eq_29 (ai @CI.sem.eq_30 @CI.sem.eq_31)))))) (ai (ai (ai (ai (ai @CI.sem.eq_32 @CI.sem.eq_33) (ai
 @CI.sem.eq_34 (ai @CI.sem.eq_35 @CI.sem.eq_36))) (ai (ai @CI.sem.eq_37 (ai @CI.sem.eq_38 @CI.sem.eq_39)) (ai @CI.sem.eq_40 (ai @CI.sem.eq_41 @CI.sem.eq_42)))) (ai (ai (ai
 @CI.sem.eq_43 (ai @CI.sem.eq_44 @CI.touch.eq_1)) (ai @CI.touch.eq_2 (ai @CI.touch.eq_3 @CI.touch.eq_4))) (ai (ai @CI.touch.eq_5 (ai @CI.touch.eq_6 @CI.touch.eq_7)) (ai
 @CI.touch.eq_8 (ai @CI.touch.eq_9 @CI.touch.eq_10))))) (ai (ai (ai (ai @CI.touch.eq_11 (ai @CI.touch.eq_12 @CI.touch.eq_13)) (ai @CI.touch.eq_14 (ai @CI.touch.eq_15
 @CI.touch.eq_16))) (ai (ai @CI.touch.eq_17 (ai @CI.touch.eq_18 @CI.touch.eq_19)) (ai @appT.eq_1 (ai @appT.eq_2 @appT.eq_3)))) (ai (ai (ai @CI.use.eq_1 (ai @CI.use.eq_2
 @CI.use.eq_3)) (ai @CI.use.eq_4 (ai @CI.use.eq_5 @CI.use.eq_6))) (ai (ai @CI.use.eq_7 (ai @AV.vecId.eq_1 @AV.vecId.eq_2)) (ai @AV.vecId.eq_3 (ai @AV.hdl.eq_1 @AV.hdl.eq_2))))))) (ai
 (ai (ai (ai (ai (ai @AV.hdl.eq_3 @AV.hdl.eq_4) (ai @AV.hdl.eq_5 (ai @AV.hdl.eq_6 @AV.hdl.eq_7))) (ai (ai @objOf.eq_1 (ai @X.ev.eq_1 @X.ev.eq_2)) (ai @evA.eq_1 (ai @evA.eq_2
 @look.eq_1)))) (ai (ai (ai @look.eq_2 (ai @putF.eq_1 @putF.eq_2)) (ai @undefA.eq_1 (ai @undefA'.eq_1 @ret.eq_1))) (ai (ai @AV.bool?.eq_1 (ai @AV.bool?.eq_2 @AV.int?.eq_1)) (ai
 @AV.int?.eq_2 (ai @AV.num?.eq_1 @AV.num?.eq_2))))) (ai (ai (ai (ai @AV.str?.eq_1 (ai @AV.str?.eq_2 @AV.sc?.eq_1)) (ai @AV.sc?.eq_2 (ai @scsA.eq_1 @scsA.eq_2))) (ai (ai @scsA.eq_3
 (ai @slA.eq_1 @slA.eq_2)) (ai @slA.eq_3 (ai @slA.eq_4 @slA.eq_5)))) (ai (ai (ai @boundA.eq_1 (ai @boundA.eq_2 @boundO.eq_1)) (ai @boundO.eq_2 (ai @binS.eq_1 @binS.eq_2))) (ai (ai
 @binS.eq_3 (ai @binS.eq_4 @binS.eq_5)) (ai @binS.eq_6 (ai @binS.eq_7 @binS.eq_8)))))) (ai (ai (ai (ai (ai @binS.eq_9 (ai @binS.eq_10 @binS.eq_11)) (ai @binS.eq_12 (ai @binS.eq_13
 @binS.eq_14))) (ai (ai @binS.eq_15 (ai @binS.eq_16 @binS.eq_17)) (ai @binS.eq_18 (ai @binS.eq_19 @binS.eq_20)))) (ai (ai (ai @binS.eq_21 (ai @binS.eq_22 @binS.eq_23)) (ai
 @binS.eq_24 (ai @binS.eq_25 @fillA.eq_1))) (ai (ai @fillA.eq_2 (ai @rdLd.eq_1 @rdLd.eq_2)) (ai @rdLd.eq_3 (ai @rdLd.eq_4 @rdFad.eq_1))))) (ai (ai (ai (ai @rdFad.eq_2 (ai @rdFad.eq_3
 @rdFad.eq_4)) (ai @rdIad.eq_1 (ai @rdIad.eq_2 @rdIad.eq_3))) (ai (ai @rdIad.eq_4 (ai @rdExt.eq_1 @rdExt.eq_2)) (ai @rdExt.eq_3 (ai @rdLen.eq_1 @rdLen.eq_2)))) (ai (ai (ai
 @rdLen.eq_3 (ai @rdLen.eq_4 @rdLen.eq_5)) (ai @rdLen.eq_6 (ai @rdLen.eq_7 @rdLen.eq_8))) (ai (ai @rdLen.eq_9 (ai @rdLen.eq_10 @rdLen.eq_11)) (ai @rdIsn.eq_1 (ai @rdIsn.eq_2
 @rdIsn.eq_3)))))))) (ai (ai (ai (ai (ai (ai (ai @rdIsn.eq_4 @rdIsn.eq_5) (ai @rdSlc.eq_1 (ai @rdSlc.eq_2 @rdSlc.eq_3))) (ai (ai @rdSlc.eq_4 (ai @rdLkp.eq_1 @rdLkp.eq_2)) (ai
 @rdLkp.eq_3 (ai @rdBsf.eq_1 @pickM.eq_1)))) (ai (ai (ai @pickM.eq_2 (ai @pickD.eq_1 @pickD.eq_2)) (ai @cellsO.eq_1 (ai @cellsO.eq_2 @vecO.eq_1))) (ai (ai @vecO.eq_2 (ai @mapO'.eq_1
 @mapO'.eq_2)) (ai @mapN.eq_1 (ai @mapN.eq_2 @eOf.eq_1))))) (ai (ai (ai (ai @eOf.eq_2 (ai @boolD.eq_1 @intD.eq_1)) (ai @srcA.eq_1 (ai @srcA.eq_2 @srcA.eq_3))) (ai (ai @srcA.eq_4 (ai
 @putCells.eq_1 @putVec.eq_1)) (ai @semSt.eq_1 (ai @semSt.eq_2 @semSt.eq_3)))) (ai (ai (ai @semApp.eq_1 (ai @semApp.eq_2 @semApp.eq_3)) (ai @semApp.eq_4 (ai @semApp.eq_5
 @semApp.eq_6))) (ai (ai @semBsl.eq_1 (ai @semMks.eq_1 @semMup.eq_1)) (ai @semMup.eq_2 (ai @rowOk.eq_1 @rowOk.eq_2)))))) (ai (ai (ai (ai (ai @setE.eq_1 (ai @setE.eq_2 @calleeA.eq_1))
 (ai @calleeA.eq_2 (ai @toDs.eq_1 @toDs.eq_2))) (ai (ai @SeqQ.eq_1 (ai @SeqQ.eq_2 @BlockQ.eq_1)) (ai @BlockQ.eq_2 (ai @RetQ.eq_1 @RetQ.eq_2)))) (ai (ai (ai @RetQ.eq_3 (ai @resA.eq_1
 @resAll.eq_1)) (ai @resAll.eq_2 (ai @resOne.eq_1 @resOne.eq_2))) (ai (ai @tupA.eq_1 (ai @tupA.eq_2 @deepD.eq_1)) (ai @deepD.eq_2 (ai @deepD.eq_3 @deepD.eq_4))))) (ai (ai (ai (ai
 @deepD.eq_5 (ai @deepD.eq_6 @deepD.eq_7)) (ai @deepD.eq_8 (ai @mapO.eq_1 @mapO.eq_2))) (ai (ai @chunk.eq_1 (ai @chunk.eq_2 @AV.toD.eq_1)) (ai @AV.toD.eq_2 (ai @AV.toL.eq_1
 @AV.toL.eq_2)))) (ai (ai (ai @AV.toL.eq_3 (ai @AV.toL.eq_4 @AV.toL.eq_5)) (ai @toLs.eq_1 (ai @toLs.eq_2 @AV.cells.eq_1))) (ai (ai @AV.cells.eq_2 (ai @AV.cells.eq_3 @AV.row.eq_1))
 (ai @AV.row.eq_2 (ai @AV.row.eq_3 @AV.leaf.eq_1))))))) (ai (ai (ai (ai (ai (ai @AV.leaf.eq_2 @AV.leaf.eq_3) (ai @AV.leaf.eq_4 (ai @D.leaf.eq_1 @D.leaf.eq_2))) (ai (ai @D.leaf.eq_3
 (ai @D.leaf.eq_4 @D.leaf.eq_5)) (ai @Go.Value.oneCell'.eq_1 (ai @Go.Value.oneCell'.eq_2 @Go.Value.oneCell'.eq_3)))) (ai (ai (ai @argF.eq_1 (ai @argF.eq_2 @List.map_cons.{0,0})) (ai
 @List.map_nil.{0,0} (ai @Option.map_some.{0,0} @Option.map_none.{0,0}))) (ai (ai @Option.bind_some.{0,0} (ai @Option.bind_none.{0,0} @Option.getD_some.{0})) (ai
 @Option.getD_none.{0} (ai @Option.isSome_some.{0} @Option.isSome_none.{0}))))) (ai (ai (ai (ai @false_implies (ai @true_implies @and_true)) (ai @true_and (ai @and_self
 @if_true.{1}))) (ai (ai @if_false.{1} (ai @List.set_cons_zero.{0} @List.set_cons_succ.{0})) (ai @List.length_cons.{0} (ai @List.length_nil.{0} @List.reverse_cons.{0})))) (ai (ai (ai
 @List.reverse_nil.{0} (ai @List.nil_append.{0} @List.cons_append.{0})) (ai @List.take_succ_cons.{0} (ai @List.take_zero.{0} @List.drop_succ_cons.{0}))) (ai (ai @List.drop_zero.{0}
 (ai @beqT @beqF)) (ai @Bool.not_true (ai @Bool.not_false @Bool.true_and)))))) (ai (ai (ai (ai (ai @Bool.and_true (ai @Bool.false_and @Bool.and_false)) (ai @Bool.not_not (ai
 @Bool.false_bne @Bool.true_bne))) (ai (ai @List.length_map.{0,0} (ai @Int.toNat_natCast @Int.natCast_nonneg)) (ai @List.getElem?_map.{0,0} (ai @eq_self.{1} @SubB.eq_1)))) (ai (ai
 (ai @SubB.eq_2 (ai @List.getElem?_cons_zero.{0} @List.getElem?_cons_succ.{0})) (ai @List.length_append.{0} (ai @Option.some.injEq.{0} @D.sc.injEq))) (ai (ai @Go.Value.bool.injEq (ai
 @AV.d.injEq @Go.Value.int.injEq)) (ai @D.sl.injEq (ai @exists_eq_left'.{1} @exists_eq_left.{1}))))) (ai (ai (ai (ai @Bool.false_or (ai @Bool.true_or @Option.isNone_some.{0})) (ai
 @Option.isNone_none.{0} (ai @CI.mark.eq_1 @CI.wr.eq_1))) (ai (ai @CI.wr.eq_2 (ai @CI.wr.eq_3 @CI.wr.eq_4)) (ai @CI.wr.eq_5 (ai @CI.wr.eq_6 @CI.wr.eq_7)))) (ai (ai (ai @AV.rowId.eq_1
 (ai @AV.rowId.eq_2 @AV.rowId.eq_3)) (ai @AV.rowId.eq_4 (ai @markOf.eq_1 @o0.eq_1))) (ai (ai @om.eq_1 (ai @og.eq_1 @oh.eq_1)) (ai @oN.eq_1 (ai @xi.eq_1 @fo.eq_1)))))))))
theorem wx : type_of% wx0.down := wx0.down
def wj0 := PLift.up (ai (ai (ai @getJ0 @getJn) (ai @setJ0 @setJn)) (ai (ai @List.append_assoc.{0} @zleN) (ai @Int.le_refl (ai @List.take_length.{0} @Nat.zero_add))))
theorem wj : type_of% wj0.down := wj0.down
end Go.Bb
