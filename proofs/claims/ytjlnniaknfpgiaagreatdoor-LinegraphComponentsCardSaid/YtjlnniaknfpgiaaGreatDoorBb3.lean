/-
  Part Bb3 of this claim's proof. Joined by merge.py from the texts of wip/tpl.
-/
import Derived.Test.YtjlnniaknfpgiaaGreatDoorGE
set_option linter.unusedVariables false
set_option linter.unusedSimpArgs false
set_option linter.unnecessarySimpa false
namespace Go.Bb
open Go Go.RowKit Go.Ab
section
variable {LL : Nat → Code → CC → Prop} {B : Nat}

/-- A key, by its cells. -/
def keyV (ag : Bool) (us : List Value) : Value := if ag then .agg us.toArray else us.headD undef
def MapOk (ag : Bool) (k : Cfg) (w : World) (es : List (List Value × AV)) (ents : Array MapEntry) (clk : Nat) : Prop :=
  ents.size = es.length ∧ clk = es.length ∧ ∀ (i : Nat) (e : MapEntry) (x : List Value × AV), ents[i]? = some e → es[i]? = some x → e.key = keyV ag x.1 ∧ RA k w e.val x.2 ∧ e.born = i

def LoopOk (LL : Nat → Code → CC → Prop) (k : Cfg) (w : World) (l : ALoop) (r : Loop) : Prop :=
  r.state = l.st ∧ r.pending = l.pend.map Jmp.code ∧ r.tmps.size = l.N ∧ (∀ t x, look l.fr t = some x → RA k w (r.tmps.getD t undef) x) ∧ r.params.toList = l.ps ∧ LL l.N r.assign l.ca ∧ LL l.N r.body l.cb

/-- A row of the call's own; nothing of its room is frozen (a stretch within its elements, or behind its room, may be). -/
def ownsG (w : World) (base : Nat) (e : TypeId) (size : Nat) (v : Value) (n : Nat) (xs : List Value) : Prop :=
  xs.length = n * size ∧
  ((v = .slice none 0 0 ∧ n = 0) ∨
   ∃ g cap cur fz, v = .slice (some ⟨g, 0, none⟩) n cap ∧ base ≤ g ∧ w.heap[g]? = some (.cells cur e fz) ∧ n ≤ cap ∧ cap ≤ maxLen ∧ cur.size = cap * size ∧ cur.toList.take (n * size) = xs ∧ (fz.2 ≤ n * size ∨ cur.size ≤ fz.1))
theorem ownsG.of {w : World} {base size n : Nat} {e : TypeId} {v : Value} {xs : List Value} (h : w.ownsRow base e size v n xs) : ownsG w base e size v n xs := by
  refine ⟨h.1, ?_⟩
  rcases h.2 with e1 | ⟨g, cap, cur, e1, e2, e3, e4, e5, e6, e7⟩
  · exact .inl e1
  · exact .inr ⟨g, cap, cur, (0, 0), e1, e2, e3, e4, e5, e6, e7, .inl (Nat.zero_le _)⟩
theorem ownsG_same {w w' : World} {base size n : Nat} {e : TypeId} {v : Value} {xs : List Value} (h : ownsG w base e size v n xs) (hb : ∀ g, v.ownBlock = some g → w'.heap[g]? = w.heap[g]?) : ownsG w' base e size v n xs := by
  refine ⟨h.1, ?_⟩
  rcases h.2 with e1 | ⟨g, cap, cur, fz, e1, e2, e3, e4⟩
  · exact .inl e1
  · exact .inr ⟨g, cap, cur, fz, e1, e2, by rw [hb g (by rw [e1]; rfl)]; exact e3, e4⟩
theorem ownsG_base {w : World} {B B2 size n : Nat} {e : TypeId} {v : Value} {xs : List Value} (h : ownsG w B2 e size v n xs) (hb : B ≤ B2) : ownsG w B e size v n xs := by
  refine ⟨h.1, ?_⟩
  rcases h.2 with h2 | ⟨g, cap, cur, fz, h1, h2, h3⟩
  · exact .inl h2
  · exact .inr ⟨g, cap, cur, fz, h1, Nat.le_trans hb h2, h3⟩
theorem ownsG_form {w : World} {base size n : Nat} {e : TypeId} {v : Value} {xs : List Value} (h : ownsG w base e size v n xs) : ∃ a c, v = .slice a n c := by
  rcases h.2 with ⟨h1, h2⟩ | ⟨g, cap, cur, fz, h1, _⟩
  · exact ⟨none, 0, by rw [h2]; exact h1⟩
  · exact ⟨_, _, h1⟩
theorem ownsG_cap {w : World} {base size n c : Nat} {e : TypeId} {a : Option Addr} {xs : List Value} (h : ownsG w base e size (.slice a n c) n xs) : n ≤ c := by
  rcases h.2 with ⟨h1, h2⟩ | ⟨g, cap, cur, fz, h1, _, _, hh, _⟩
  · omega
  · simp at h1; omega
theorem ownsG.cells {w : World} {base size n : Nat} {e : TypeId} {v : Value} {xs : List Value} (h : ownsG w base e size v n xs) {g : Nat} (hg : v.ownBlock = some g) : ∀ j u, xs[j]? = some u → w.cell? ((⟨g, 0, none⟩ : Addr).add j) = some u := by
  intro j u hu
  rcases h.2 with ⟨rfl, _⟩ | ⟨g', cap, cur, fz, rfl, _, hgg, _, _, _, htake, _⟩
  · simp [Value.ownBlock] at hg
  · simp [Value.ownBlock] at hg
    subst hg
    have hadd : (⟨g', 0, none⟩ : Addr).add j = ⟨g', j, none⟩ := by unfold Addr.add; split <;> simp_all
    rw [hadd, cell_of_row w g' j cur e fz hgg]
    rw [← htake, List.getElem?_take] at hu
    split at hu
    · simpa using hu
    · cases hu

/-- An own block is as told. -/
def ObjOk (LL : Nat → Code → CC → Prop) (B : Nat) (k : Cfg) (w : World) : AObj → Own → Prop
  | .cells ds, .blk b => ∃ t us, w.heap[b]? = some (.cells us.toArray t (0, 0)) ∧ RAs k w us ds ∧ k.I b = 0
  | .tcells t ds, .blk b => ∃ us, w.heap[b]? = some (.cells us.toArray t (0, 0)) ∧ RAs k w us ds ∧ k.I b = 0
  | .row e sz n, .row v m => m = n ∧ (∃ xs, ownsG w B e sz v n xs) ∧ ∀ g, v.ownBlock = some g → k.I g = n * sz
  | .vec e sz ds, .row v n => ∃ xs, w.ownsRow B e sz v n xs ∧ (∀ g, v.ownBlock = some g → k.I g = 0) ∧ ds.length = n * sz ∧ RAs k w xs ds
  | .map ag es, .blk b => ∃ ents clk, w.heap[b]? = some (.map ents clk) ∧ MapOk ag k w es ents clk ∧ k.I b = 0
  | .loop l, .blk b => ∃ r, w.heap[b]? = some (.loop r) ∧ LoopOk LL k w l r ∧ k.I b = 0
  | .hole, .hole => True
  | .junk, _ => True
  | _, _ => False

structure St (LL : Nat → Code → CC → Prop) (B : Nat) (k : Cfg) (s : List AObj) (w : World) : Prop where
  base : B ≤ w.heap.size
  len : k.own.length = s.length
  obj : ∀ (id : Nat) (x : AObj) (o : Own), s[id]? = some x → k.own[id]? = some o → ObjOk LL B k w x o
  lies : ∀ (id : Nat) (o : Own) (b : Nat), k.own[id]? = some o → o.block = some b → B ≤ b ∧ b < w.heap.size
  apart : ∀ (i j : Nat) (o o' : Own) (b : Nat), i ≠ j → k.own[i]? = some o → k.own[j]? = some o' → o.block = some b → o'.block ≠ some b

theorem St.get {k : Cfg} {s : List AObj} {w : World} (h : St LL B k s w) {id : Nat} {x : AObj} (hs : s[id]? = some x) : ∃ o, k.own[id]? = some o ∧ ObjOk LL B k w x o := by
  have hi := (List.getElem?_eq_some_iff.1 hs).1
  have : id < k.own.length := by rw [h.len]; exact hi
  exact ⟨k.own[id], List.getElem?_eq_getElem this, h.obj id x _ hs (List.getElem?_eq_getElem this)⟩

theorem St.cells {k : Cfg} {s : List AObj} {w : World} (h : St LL B k s w) {id : Nat} {ds : List AV} (hs : s[id]? = some (.cells ds)) :
    ∃ b t us, k.own[id]? = some (.blk b) ∧ w.heap[b]? = some (.cells us.toArray t (0, 0)) ∧ RAs k w us ds ∧ k.I b = 0 := by
  obtain ⟨o, h1, h2⟩ := h.get hs
  cases o with
  | blk b => obtain ⟨t, us, h3, h4, h5⟩ := h2; exact ⟨b, t, us, h1, h3, h4, h5⟩
  | row v n => exact h2.elim
  | hole => exact h2.elim
theorem St.tcells {k : Cfg} {s : List AObj} {w : World} (h : St LL B k s w) {id t : Nat} {ds : List AV} (hs : s[id]? = some (.tcells t ds)) :
    ∃ b us, k.own[id]? = some (.blk b) ∧ w.heap[b]? = some (.cells us.toArray t (0, 0)) ∧ RAs k w us ds ∧ k.I b = 0 := by
  obtain ⟨o, h1, h2⟩ := h.get hs
  cases o with
  | blk b => obtain ⟨us, h3, h4, h5⟩ := h2; exact ⟨b, us, h1, h3, h4, h5⟩
  | row v n => exact h2.elim
  | hole => exact h2.elim
theorem St.row {k : Cfg} {s : List AObj} {w : World} (h : St LL B k s w) {id e sz n : Nat} (hs : s[id]? = some (.row e sz n)) :
    ∃ v xs, k.own[id]? = some (.row v n) ∧ ownsG w B e sz v n xs ∧ ∀ g, v.ownBlock = some g → k.I g = n * sz := by
  obtain ⟨o, h1, h2⟩ := h.get hs
  cases o with
  | blk b => exact h2.elim
  | hole => exact h2.elim
  | row v m => obtain ⟨rfl, ⟨xs, h3⟩, h4⟩ := h2; exact ⟨v, xs, h1, h3, h4⟩
theorem St.vec {k : Cfg} {s : List AObj} {w : World} (h : St LL B k s w) {id e sz : Nat} {ds : List AV} (hs : s[id]? = some (.vec e sz ds)) :
    ∃ v n xs, k.own[id]? = some (.row v n) ∧ w.ownsRow B e sz v n xs ∧ (∀ g, v.ownBlock = some g → k.I g = 0) ∧ ds.length = n * sz ∧ RAs k w xs ds := by
  obtain ⟨o, h1, h2⟩ := h.get hs
  cases o with
  | blk b => exact h2.elim
  | hole => exact h2.elim
  | row v m => obtain ⟨xs, h3, h4, h5, h6⟩ := h2; exact ⟨v, m, xs, h1, h3, h4, h5, h6⟩
theorem St.map {k : Cfg} {s : List AObj} {w : World} (h : St LL B k s w) {id : Nat} {ag : Bool} {es : List (List Value × AV)} (hs : s[id]? = some (.map ag es)) :
    ∃ b ents clk, k.own[id]? = some (.blk b) ∧ w.heap[b]? = some (.map ents clk) ∧ MapOk ag k w es ents clk ∧ k.I b = 0 := by
  obtain ⟨o, h1, h2⟩ := h.get hs
  cases o with
  | blk b => obtain ⟨t, us, h3, h4, h5⟩ := h2; exact ⟨b, t, us, h1, h3, h4, h5⟩
  | row v n => exact h2.elim
  | hole => exact h2.elim
theorem St.loop {k : Cfg} {s : List AObj} {w : World} (h : St LL B k s w) {id : Nat} {l : ALoop} (hs : s[id]? = some (.loop l)) :
    ∃ b r, k.own[id]? = some (.blk b) ∧ w.heap[b]? = some (.loop r) ∧ LoopOk LL k w l r ∧ k.I b = 0 := by
  obtain ⟨o, h1, h2⟩ := h.get hs
  cases o with
  | blk b => obtain ⟨r, h3, h4, h5⟩ := h2; exact ⟨b, r, h1, h3, h4, h5⟩
  | row v n => exact h2.elim
  | hole => exact h2.elim

theorem MapOk.mono {ag : Bool} {k k' : Cfg} {w w' : World} (hm : Mono k w k' w') {es : List (List Value × AV)} {ents : Array MapEntry} {clk : Nat} (h : MapOk ag k w es ents clk) : MapOk ag k' w' es ents clk :=
  ⟨h.1, h.2.1, fun i e x he hx => let ⟨h1, h2, h3⟩ := h.2.2 i e x he hx; ⟨h1, h2.mono hm, h3⟩⟩
theorem LoopOk.mono {k k' : Cfg} {w w' : World} (hm : Mono k w k' w') {l : ALoop} {r : Loop} (h : LoopOk LL k w l r) : LoopOk LL k' w' l r :=
  ⟨h.1, h.2.1, h.2.2.1, fun t x hx => (h.2.2.2.1 t x hx).mono hm, h.2.2.2.2⟩

theorem ownsRow_same {w w' : World} {e sz n : Nat} {v : Value} {xs : List Value} (h : w.ownsRow B e sz v n xs) (hb : ∀ g, v.ownBlock = some g → w'.heap[g]? = w.heap[g]?) : w'.ownsRow B e sz v n xs := by
  refine ⟨h.1, ?_⟩
  rcases h.2 with e1 | ⟨g, cap, cur, e1, e2, e3, e4⟩
  · exact .inl e1
  · exact .inr ⟨g, cap, cur, e1, e2, by rw [hb g (by rw [e1]; rfl)]; exact e3, e4⟩

/-- Where its block lies as it lay, an own block is as told. -/
theorem ObjOk.same {k k' : Cfg} {w w' : World} {x : AObj} {o : Own} (h : ObjOk LL B k w x o) (hm : Mono k w k' w') (hb : ∀ b, o.block = some b → w'.heap[b]? = w.heap[b]? ∧ k'.I b = k.I b) : ObjOk LL B k' w' x o := by
  cases x with
  | cells ds =>
    cases o with
    | blk b =>
      obtain ⟨t, us, h3, h4, h5⟩ := h
      obtain ⟨e1, e2⟩ := hb b rfl
      exact ⟨t, us, by rw [e1]; exact h3, h4.mono hm, by rw [e2]; exact h5⟩
    | row v n => exact h.elim
    | hole => exact h.elim
  | tcells t ds =>
    cases o with
    | blk b =>
      obtain ⟨us, h3, h4, h5⟩ := h
      obtain ⟨e1, e2⟩ := hb b rfl
      exact ⟨us, by rw [e1]; exact h3, h4.mono hm, by rw [e2]; exact h5⟩
    | row v n => exact h.elim
    | hole => exact h.elim
  | row e sz n =>
    cases o with
    | blk b => exact h.elim
    | hole => exact h.elim
    | row v m =>
      obtain ⟨h1, ⟨xs, h2⟩, h3⟩ := h
      exact ⟨h1, ⟨xs, ownsG_same h2 fun g hg => (hb g hg).1⟩, fun g hg => by rw [(hb g hg).2]; exact h3 g hg⟩
  | vec e sz ds =>
    cases o with
    | blk b => exact h.elim
    | hole => exact h.elim
    | row v m =>
      obtain ⟨xs, h2, h3, h4, h5⟩ := h
      exact ⟨xs, ownsRow_same h2 fun g hg => (hb g hg).1, fun g hg => by rw [(hb g hg).2]; exact h3 g hg, h4, h5.mono hm⟩
  | map ag es =>
    cases o with
    | blk b =>
      obtain ⟨t, us, h3, h4, h5⟩ := h
      obtain ⟨e1, e2⟩ := hb b rfl
      exact ⟨t, us, by rw [e1]; exact h3, h4.mono hm, by rw [e2]; exact h5⟩
    | row v n => exact h.elim
    | hole => exact h.elim
  | loop l =>
    cases o with
    | blk b =>
      obtain ⟨r, h3, h4, h5⟩ := h
      obtain ⟨e1, e2⟩ := hb b rfl
      exact ⟨r, by rw [e1]; exact h3, h4.mono hm, by rw [e2]; exact h5⟩
    | row v n => exact h.elim
    | hole => exact h.elim
  | hole =>
    cases o with
    | blk b => exact h.elim
    | row v n => exact h.elim
    | hole => trivial
  | junk => cases o <;> trivial

/-- A step that leaves all own blocks as they lie. -/
theorem St.same {k k' : Cfg} {s : List AObj} {w w' : World} (h : St LL B k s w) (hm : Mono k w k' w') (hsz : w.heap.size ≤ w'.heap.size) (hown : k'.own = k.own)
    (hb : ∀ b, ¬ Unowned k b → w'.heap[b]? = w.heap[b]? ∧ k'.I b = k.I b) : St LL B k' s w' := by
  have hown' : ∀ (id : Nat) (o : Own) (b : Nat), k.own[id]? = some o → o.block = some b → ¬ Unowned k b := fun id o b ho hob hu => hu id o ho hob
  refine ⟨Nat.le_trans h.base hsz, by rw [hown]; exact h.len, fun id x o hs ho => ?_, fun id o b ho hob => ?_, fun i j o o' b hij ho ho' => ?_⟩
  · rw [hown] at ho
    exact (h.obj id x o hs ho).same hm fun b hob => hb b (hown' id o b ho hob)
  · rw [hown] at ho
    obtain ⟨l1, l2⟩ := h.lies id o b ho hob
    exact ⟨l1, by omega⟩
  · rw [hown] at ho ho'
    exact h.apart i j o o' b hij ho ho'

theorem St.owned {k : Cfg} {s : List AObj} {w : World} (h : St LL B k s w) {b : Nat} (hu : ¬ Unowned k b) : B ≤ b ∧ b < w.heap.size := by
  apply Classical.byContradiction
  intro hn
  exact hu fun id o ho hob => hn (h.lies id o b ho hob)

theorem Ext.drew (B : Nat) (k : Cfg) (w : World) : Ext B k w k w.drew := ⟨⟨fun _ _ _ h hc => ⟨h, hc⟩, fun _ o h => ⟨o, h, OwnLe.refl o⟩⟩, (Below.refl _ _).drew, fun _ _ => rfl, fun _ _ _ => rfl, fun _ o _ ho hb _ => ⟨o, ho, hb⟩⟩
theorem St.drew {k : Cfg} {s : List AObj} {w : World} (h : St LL B k s w) : St LL B k s w.drew := h.same (Ext.drew B k w).mono (Nat.le_refl _) rfl (fun _ _ => ⟨rfl, rfl⟩)

def updI (I : Nat → Nat) (n x : Nat) : Nat → Nat := fun b => if b = n then x else I b
theorem updI_self (I : Nat → Nat) (n x : Nat) : updI I n x n = x := by simp [updI]
theorem updI_ne (I : Nat → Nat) {n b : Nat} (x : Nat) (h : b ≠ n) : updI I n x b = I b := by simp [updI, h]
theorem cell_none_lt {w : World} {b o : Nat} {u : Value} (h : w.cell? ⟨b, o, none⟩ = some u) : b < w.heap.size := World.block_lt_of_cell? w _ h

/-- Blocks are made; all older ones lie as they lay. -/
theorem Ext.fresh' {k : Cfg} {w w' : World} (hbase : B ≤ w.heap.size) (hb : Below w.heap.size w w') {I' : Nat → Nat} (hI : ∀ b, b < w.heap.size → I' b = k.I b) (own' : List Own) (ho : ∀ (id : Nat) (o : Own), k.own[id]? = some o → ∃ o', own'[id]? = some o' ∧ OwnLe o o')
    (hf : ∀ (id : Nat) (o : Own) (b : Nat), own'[id]? = some o → o.block = some b → b < w.heap.size → ∃ o', k.own[id]? = some o' ∧ o'.block = some b) : Ext B k w ⟨I', own'⟩ w' :=
  ⟨⟨fun b o u h hc => by
    have hlt := cell_none_lt hc
    exact ⟨by show o < I' b; rw [hI b hlt]; exact h, (hb.cell (p := ⟨b, o, none⟩) hlt).trans hc⟩, ho⟩, hb.mono hbase, fun b h => hI b (by omega), fun b hlt _ => hb.block b hlt, hf⟩

def cellsIn (w : World) (b : Nat) : Nat := match w.heap[b]? with
  | some (.cells c _ _) => c.size
  | _ => 0
theorem lt_cellsIn {w : World} {b o : Nat} {u : Value} (h : w.cell? ⟨b, o, none⟩ = some u) : o < cellsIn w b := by
  unfold World.cell? at h
  unfold cellsIn
  dsimp only at h
  split at h
  · rename_i c _ _ hc
    rw [hc]
    simp at h
    exact (Array.getElem?_eq_some_iff.1 h).1
  · cases h
def bigI (I : Nat → Nat) (n : Nat) (w' : World) : Nat → Nat := fun b => if b < n then I b else cellsIn w' b
theorem bigI_lt (I : Nat → Nat) {n b : Nat} (w' : World) (h : b < n) : bigI I n w' b = I b := by simp [bigI, h]

theorem Ext.called {k : Cfg} {w w' : World} (hbase : B ≤ w.heap.size) (hb : Below w.heap.size w w') : Ext B k w ⟨bigI k.I w.heap.size w', k.own⟩ w' :=
  Ext.fresh' hbase hb (fun _ h => bigI_lt _ _ h) _ (fun _ o h => ⟨o, h, OwnLe.refl o⟩) fun _ o _ ho hb _ => ⟨o, ho, hb⟩
theorem St.called {k : Cfg} {s : List AObj} {w w' : World} (h : St LL B k s w) (hb : Below w.heap.size w w') : St LL B ⟨bigI k.I w.heap.size w', k.own⟩ s w' :=
  h.same (Ext.called h.base hb).mono hb.size rfl fun b hu => let hlt := (h.owned hu).2; ⟨hb.block b hlt, bigI_lt _ _ hlt⟩

theorem getElem?_snoc {α : Type} {l : List α} {x : α} {i : Nat} {y : α} (h : (l ++ [x])[i]? = some y) : l[i]? = some y ∨ (i = l.length ∧ y = x) := by
  rw [List.getElem?_append] at h
  split at h
  · exact .inl h
  · rename_i hlt
    right
    have : i - l.length = 0 := by
      rcases Nat.eq_zero_or_pos (i - l.length) with e | e
      · exact e
      · rw [List.getElem?_eq_none (by simp; omega)] at h; cases h
    rw [this] at h
    simp at h
    exact ⟨by omega, h.symm⟩
theorem getElem?_snoc_old {α : Type} {l : List α} (x : α) {i : Nat} {y : α} (h : l[i]? = some y) : (l ++ [x])[i]? = some y := by
  rw [List.getElem?_append_left (List.getElem?_eq_some_iff.1 h).1]; exact h

/-- A new own block, in the block w.heap.size or in none. -/
theorem Ext.new {k : Cfg} {w w' : World} (hbase : B ≤ w.heap.size) (hb : Below w.heap.size w w') {I' : Nat → Nat} (hI : ∀ b, b < w.heap.size → I' b = k.I b) (o : Own) (hob : ∀ b, o.block = some b → w.heap.size ≤ b) : Ext B k w ⟨I', k.own ++ [o]⟩ w' :=
  Ext.fresh' hbase hb hI _ (fun id o' ho => ⟨o', getElem?_snoc_old _ ho, OwnLe.refl _⟩) fun id o' b ho hob' hlt => by
    rcases getElem?_snoc ho with ho2 | ⟨_, rfl⟩
    · exact ⟨o', ho2, hob'⟩
    · have := hob b hob'; omega

theorem St.new {k : Cfg} {s : List AObj} {w w' : World} (h : St LL B k s w) (hb : Below w.heap.size w w') {I' : Nat → Nat} (hI : ∀ b, b < w.heap.size → I' b = k.I b) (o : Own) (x : AObj) (hob : ∀ b, o.block = some b → w.heap.size ≤ b ∧ b < w'.heap.size)
    (hx : ObjOk LL B ⟨I', k.own ++ [o]⟩ w' x o) : Ext B k w ⟨I', k.own ++ [o]⟩ w' ∧ St LL B ⟨I', k.own ++ [o]⟩ (s ++ [x]) w' := by
  have he : Ext B k w ⟨I', k.own ++ [o]⟩ w' := Ext.new h.base hb hI o fun b hb => (hob b hb).1
  refine ⟨he, Nat.le_trans h.base hb.size, by simp [h.len], fun id y o' hs ho => ?_, fun id o' b ho hob' => ?_, fun i j o1 o2 b hij ho1 ho2 hb1 hb2 => ?_⟩
  · rcases getElem?_snoc hs with hs2 | ⟨rfl, rfl⟩
    · have hlt : id < s.length := (List.getElem?_eq_some_iff.1 hs2).1
      have ho2 : k.own[id]? = some o' := by
        rcases getElem?_snoc ho with ho2 | ⟨e, _⟩
        · exact ho2
        · rw [h.len] at e; omega
      exact (h.obj id y o' hs2 ho2).same he.mono fun b hob' => let hlt := (h.lies id o' b ho2 hob').2; ⟨hb.block b hlt, hI b hlt⟩
    · rcases getElem?_snoc ho with ho2 | ⟨_, rfl⟩
      · have := (List.getElem?_eq_some_iff.1 ho2).1; rw [h.len] at this; omega
      · exact hx
  · rcases getElem?_snoc ho with ho2 | ⟨_, rfl⟩
    · obtain ⟨l1, l2⟩ := h.lies id o' b ho2 hob'
      exact ⟨l1, Nat.lt_of_lt_of_le l2 hb.size⟩
    · obtain ⟨l1, l2⟩ := hob b hob'; exact ⟨Nat.le_trans h.base l1, l2⟩
  · rcases getElem?_snoc ho1 with ho3 | ⟨rfl, rfl⟩ <;> rcases getElem?_snoc ho2 with ho4 | ⟨rfl, rfl⟩
    · exact h.apart i j o1 o2 b hij ho3 ho4 hb1 hb2
    · have := (h.lies i o1 b ho3 hb1).2
      have := (hob b hb2).1; omega
    · have := (h.lies j o2 b ho4 hb2).2
      have := (hob b hb1).1; omega
    · exact hij rfl

/-- A list with another one laid over it, from place n on. -/
def fill {α : Type} (l : List α) (n : Nat) (xs : List α) : List α := l.take n ++ xs ++ l.drop (n + xs.length)
theorem fill_end {α : Type} (l xs : List α) : fill l l.length xs = l ++ xs := by
  unfold fill
  rw [List.take_length, List.drop_eq_nil_of_le (by omega), List.append_nil]
theorem fill_get {α : Type} {l : List α} {n : Nat} (xs : List α) (h : n ≤ l.length) (i : Nat) : (fill l n xs)[i]? = if i < n then l[i]? else if i < n + xs.length then xs[i - n]? else l[i]? := by
  unfold fill
  rw [List.append_assoc, List.getElem?_append, List.length_take, Nat.min_eq_left h]
  by_cases h1 : i < n
  · rw [if_pos h1, if_pos h1, List.getElem?_take, if_pos h1]
  · rw [if_neg h1, if_neg h1, List.getElem?_append]
    by_cases h2 : i < n + xs.length
    · rw [if_pos (by omega), if_pos h2]
    · rw [if_neg (by omega), if_neg h2, List.getElem?_drop]
      congr 1; omega
theorem fill_length {α : Type} {l : List α} {n : Nat} {xs : List α} (h : n + xs.length ≤ l.length) : (fill l n xs).length = l.length := by
  unfold fill
  simp only [List.length_append, List.length_take, List.length_drop]
  omega
/-- Places not filled yet: holes, or the end. -/
def Holes (s : List AObj) (n m : Nat) : Prop := (n + m ≤ s.length ∧ ∀ i : Nat, n ≤ i → i < n + m → s[i]? = some .hole) ∨ n = s.length
theorem Holes.end' (s : List AObj) (m : Nat) : Holes s s.length m := .inr rfl
theorem Holes.le {s : List AObj} {n m : Nat} (h : Holes s n m) : n ≤ s.length := by
  rcases h with ⟨h, _⟩ | h <;> omega

theorem St.hole_own {k : Cfg} {s : List AObj} {w : World} (h : St LL B k s w) {i : Nat} (hs : s[i]? = some .hole) : k.own[i]? = some .hole := by
  obtain ⟨o, h1, h2⟩ := h.get hs
  cases o with
  | blk b => exact h2.elim
  | row v n => exact h2.elim
  | hole => exact h1

/-- New own blocks are laid where holes are, or at the end. -/
theorem St.fill {k : Cfg} {s : List AObj} {w w' : World} (h : St LL B k s w) (hb : Below w.heap.size w w') {I' : Nat → Nat} (hI : ∀ b, b < w.heap.size → I' b = k.I b) {n : Nat} (os : List Own) (xs : List AObj) (hlen : os.length = xs.length) (hn : Holes s n xs.length)
    (hob : ∀ (i : Nat) (o : Own) (b : Nat), os[i]? = some o → o.block = some b → w.heap.size ≤ b ∧ b < w'.heap.size) (hap : ∀ (i j : Nat) (o o' : Own) (b : Nat), i ≠ j → os[i]? = some o → os[j]? = some o' → o.block = some b → o'.block ≠ some b)
    (hx : Mono k w ⟨I', Bb.fill k.own n os⟩ w' → ∀ (i : Nat) (o : Own) (x : AObj), os[i]? = some o → xs[i]? = some x → ObjOk LL B ⟨I', Bb.fill k.own n os⟩ w' x o) :
    Ext B k w ⟨I', Bb.fill k.own n os⟩ w' ∧ St LL B ⟨I', Bb.fill k.own n os⟩ (Bb.fill s n xs) w' := by
  have hle := hn.le
  have hlo : n ≤ k.own.length := by rw [h.len]; exact hle
  have hgo := fill_get os hlo
  have hgs := fill_get xs hle
  have hole : ∀ i o, n ≤ i → i < n + os.length → k.own[i]? = some o → o = .hole := fun i o h1 h2 h3 => by
    rcases hn with ⟨_, h4⟩ | h4
    · have := h.hole_own (h4 i h1 (by omega))
      rw [h3] at this; exact Option.some.inj this
    · have := (List.getElem?_eq_some_iff.1 h3).1
      rw [h.len] at this; omega
  have old : ∀ (i : Nat) (o : Own), (Bb.fill k.own n os)[i]? = some o → (k.own[i]? = some o ∧ ¬ (n ≤ i ∧ i < n + os.length)) ∨ (n ≤ i ∧ i < n + os.length ∧ os[i - n]? = some o) := fun i o ho => by
    rw [hgo] at ho
    by_cases h1 : i < n
    · rw [if_pos h1] at ho; exact .inl ⟨ho, by omega⟩
    · rw [if_neg h1] at ho
      by_cases h2 : i < n + os.length
      · rw [if_pos h2] at ho; exact .inr ⟨by omega, h2, ho⟩
      · rw [if_neg h2] at ho; exact .inl ⟨ho, by omega⟩
  have he : Ext B k w ⟨I', Bb.fill k.own n os⟩ w' := by
    refine Ext.fresh' h.base hb hI _ (fun id o ho => ?_) fun id o b ho hob' hlt => ?_
    · by_cases h1 : n ≤ id ∧ id < n + os.length
      · have := hole id o h1.1 h1.2 ho
        subst this
        have h3 : id - n < os.length := by omega
        exact ⟨os[id - n], by rw [hgo, if_neg (by omega), if_pos h1.2]; exact List.getElem?_eq_getElem h3, trivial⟩
      · refine ⟨o, ?_, OwnLe.refl o⟩
        rw [hgo]
        by_cases h2 : id < n
        · rw [if_pos h2]; exact ho
        · rw [if_neg h2, if_neg (by omega)]; exact ho
    · rcases old id o ho with ⟨h1, _⟩ | ⟨_, _, h1⟩
      · exact ⟨o, h1, hob'⟩
      · have := (hob _ o b h1 hob').1; omega
  refine ⟨he, Nat.le_trans h.base hb.size, ?_, fun id y o hs ho => ?_, fun id o b ho hob' => ?_, fun i j o1 o2 b hij ho1 ho2 hb1 hb2 => ?_⟩
  · have hk := h.len
    show (Bb.fill k.own n os).length = (Bb.fill s n xs).length
    unfold Bb.fill
    simp only [List.length_append, List.length_take, List.length_drop, hlen, hk]
  · have ho' : (Bb.fill k.own n os)[id]? = some o := ho
    rcases old id o ho' with ⟨h1, h2⟩ | ⟨h1, h2, h3⟩
    · rw [hgs] at hs
      have hs2 : s[id]? = some y := by
        by_cases h3 : id < n
        · rw [if_pos h3] at hs; exact hs
        · rw [if_neg h3, if_neg (by omega)] at hs; exact hs
      exact (h.obj id y o hs2 h1).same he.mono fun b hob' => let hlt := (h.lies id o b h1 hob').2; ⟨hb.block b hlt, hI b hlt⟩
    · rw [hgs, if_neg (by omega), if_pos (by omega)] at hs
      exact hx he.mono _ o y h3 hs
  · rcases old id o ho with ⟨h1, _⟩ | ⟨_, _, h1⟩
    · obtain ⟨l1, l2⟩ := h.lies id o b h1 hob'
      exact ⟨l1, Nat.lt_of_lt_of_le l2 hb.size⟩
    · obtain ⟨l1, l2⟩ := hob _ o b h1 hob'
      exact ⟨Nat.le_trans h.base l1, l2⟩
  · rcases old i o1 ho1 with ⟨h1, h1'⟩ | ⟨h1, h1', h1''⟩ <;> rcases old j o2 ho2 with ⟨h2, h2'⟩ | ⟨h2, h2', h2''⟩
    · exact h.apart i j o1 o2 b hij h1 h2 hb1 hb2
    · have := (h.lies i o1 b h1 hb1).2
      have := (hob _ o2 b h2'' hb2).1; omega
    · have := (h.lies j o2 b h2 hb2).2
      have := (hob _ o1 b h1'' hb1).1; omega
    · exact hap (i - n) (j - n) o1 o2 b (by omega) h1'' h2'' hb1 hb2

/-- A new own block where a hole is, or at the end. -/
theorem St.newAt {k : Cfg} {s : List AObj} {w w' : World} (h : St LL B k s w) (hb : Below w.heap.size w w') {I' : Nat → Nat} (hI : ∀ b, b < w.heap.size → I' b = k.I b) {n : Nat} (hn : Holes s n 1) (o : Own) (x : AObj) (hob : ∀ b, o.block = some b → w.heap.size ≤ b ∧ b < w'.heap.size)
    (hx : Mono k w ⟨I', Bb.fill k.own n [o]⟩ w' → ObjOk LL B ⟨I', Bb.fill k.own n [o]⟩ w' x o) : Ext B k w ⟨I', Bb.fill k.own n [o]⟩ w' ∧ St LL B ⟨I', Bb.fill k.own n [o]⟩ (Bb.fill s n [x]) w' :=
  h.fill hb hI [o] [x] rfl hn (fun i o' b ho hb' => by cases i with
    | zero => cases ho; exact hob b hb'
    | succ i => cases ho) (fun i j o1 o2 b hij h1 h2 => by cases i with
    | zero => cases j with
      | zero => exact absurd rfl hij
      | succ j => cases h2
    | succ i => cases h1) fun hm i o' x' ho hx' => by cases i with
    | zero => cases ho; cases hx'; exact hx hm
    | succ i => cases ho
theorem fill_own {k : Cfg} {s : List AObj} {w : World} (h : St LL B k s w) {n : Nat} (hn : Holes s n 1) (o : Own) : (Bb.fill k.own n [o])[n]? = some o := by
  rw [fill_get [o] (by rw [h.len]; exact hn.le), if_neg (Nat.lt_irrefl _), if_pos (by simp)]; simp
/-- Holes at the end. -/
theorem St.holes {k : Cfg} {s : List AObj} {w : World} (h : St LL B k s w) (m : Nat) : Ext B k w ⟨k.I, k.own ++ List.replicate m .hole⟩ w ∧ St LL B ⟨k.I, k.own ++ List.replicate m .hole⟩ (s ++ List.replicate m .hole) w := by
  have := h.fill (Below.refl _ _) (I' := k.I) (fun _ _ => rfl) (n := s.length) (List.replicate m .hole) (List.replicate m .hole) (by simp) (.inr rfl) (fun i o b ho hb => by
    rw [List.getElem?_replicate] at ho
    split at ho
    · cases ho; cases hb
    · cases ho) (fun i j o o' b _ ho _ hb => by
    rw [List.getElem?_replicate] at ho
    split at ho
    · cases ho; cases hb
    · cases ho) fun _ i o x ho hx => by
    rw [List.getElem?_replicate] at ho hx
    split at ho
    · rename_i hlt
      rw [if_pos hlt] at hx
      cases ho; cases hx; trivial
    · cases ho
  rw [fill_end, ← h.len, fill_end] at this
  exact this

/-- An own block is written, or its row moves. -/
theorem St.upd {k k' : Cfg} {s : List AObj} {w w' : World} (h : St LL B k s w) {id : Nat} {o o' : Own} (ho : k.own[id]? = some o) (x' : AObj) (hown : k'.own = k.own.set id o') (hle : OwnLe o o') (hkeep : KeepI k.I w k'.I w') (hbelow : Below B w w')
    (hblk : ∀ b, o'.block = some b → (o.block = some b ∨ w.heap.size ≤ b) ∧ b < w'.heap.size ∧ B ≤ b) (hoth : ∀ b, b < w.heap.size → o.block ≠ some b → w'.heap[b]? = w.heap[b]? ∧ k'.I b = k.I b)
    (hx : ObjOk LL B k' w' x' o') : Ext B k w k' w' ∧ St LL B k' (s.set id x') w' := by
  have hid := (List.getElem?_eq_some_iff.1 ho).1
  have hget : ∀ j, k'.own[j]? = if id = j then some o' else k.own[j]? := fun j => by
    rw [hown, List.getElem?_set]
    by_cases e : id = j
    · subst e; simp [hid]
    · simp [e]
  have hm : Mono k w k' w' := ⟨hkeep, fun j oj hj => by
    by_cases e : id = j
    · subst e; rw [ho] at hj; obtain rfl := Option.some.inj hj; exact ⟨o', by rw [hget, if_pos rfl], hle⟩
    · exact ⟨oj, by rw [hget, if_neg e]; exact hj, OwnLe.refl _⟩⟩
  have hlow : ∀ b, b < B → o.block ≠ some b := fun b hlt e => by have := (h.lies id o b ho e).1; omega
  refine ⟨⟨hm, hbelow, fun b hlt => (hoth b (Nat.lt_of_lt_of_le hlt h.base) (hlow b hlt)).2, fun b hlt hu => (hoth b hlt (hu id o ho)).1, fun j oj b hj hob hlt => ?_⟩, Nat.le_trans h.base hbelow.size, by rw [hown]; simp [h.len], fun j y oj hs hj => ?_, fun j oj b hj hob => ?_, fun i j o1 o2 b hij h1 h2 hb1 hb2 => ?_⟩
  · rw [hget] at hj
    split at hj
    · rename_i e
      subst e; obtain rfl := Option.some.inj hj
      rcases (hblk b hob).1 with e1 | e1
      · exact ⟨o, ho, e1⟩
      · omega
    · exact ⟨oj, hj, hob⟩
  · rw [hget] at hj
    split at hj
    · rename_i e
      subst e; obtain rfl := Option.some.inj hj
      rw [List.getElem?_set, if_pos rfl, if_pos (by rw [← h.len]; exact hid)] at hs
      obtain rfl := Option.some.inj hs
      exact hx
    · rename_i e
      rw [List.getElem?_set, if_neg e] at hs
      exact (h.obj j y oj hs hj).same hm fun b hob => hoth b (h.lies j oj b hj hob).2 (h.apart j id oj o b (Ne.symm e) hj ho hob)
  · rw [hget] at hj
    split at hj
    · rename_i e
      subst e; obtain rfl := Option.some.inj hj
      obtain ⟨_, l1, l2⟩ := hblk b hob; exact ⟨l2, l1⟩
    · obtain ⟨l1, l2⟩ := h.lies j oj b hj hob
      exact ⟨l1, Nat.lt_of_lt_of_le l2 hbelow.size⟩
  · rw [hget] at h1 h2
    have key : ∀ (j : Nat) (oj : Own), j ≠ id → k.own[j]? = some oj → oj.block = some b → o'.block ≠ some b := fun j oj hne hj hbj hb' => by
      rcases (hblk b hb').1 with e1 | e1
      · exact h.apart j id oj o b hne hj ho hbj e1
      · have := (h.lies j oj b hj hbj).2; omega
    split at h1 <;> split at h2
    · rename_i e1 e2; exact hij (e1.symm.trans e2)
    · rename_i e1 e2; subst e1; obtain rfl := Option.some.inj h1; exact key j o2 (Ne.symm e2) h2 hb2 hb1
    · rename_i e1 e2; subst e2; obtain rfl := Option.some.inj h2; exact key i o1 (Ne.symm e1) h1 hb1 hb2
    · exact h.apart i j o1 o2 b hij h1 h2 hb1 hb2

end
end Go.Bb
