/-
  Part GO of this claim's proof. Joined by merge.py from the texts of wip/tpl.
-/
import Derived.Test.YtjlnniaknfpgiaaGreatDoorB5
set_option linter.unusedVariables false
set_option linter.unusedSimpArgs false
set_option linter.unnecessarySimpa false
set_option linter.unusedVariables false
namespace Go.Proofs.Lh
open Go Go.Ab Go.Bb Go.RowKit Go.Proofs.Lg

section
variable {LL : Nat → Code → CC → Prop} {s : List AObj}

theorem RAs_set {k : Cfg} {w : World} {us : List Value} {ds : List AV} (h : RAs k w us ds) {i : Nat} {u : Value} {x : AV} (hu : u.oneCell' = true) (hx : RA k w u x) : RAs k w (us.set i u) (ds.set i x) := by
  refine ⟨by simp [h.1], fun v hv => ?_, fun j v d hv hd => ?_⟩
  · rcases List.mem_or_eq_of_mem_set hv with hv | rfl
    · exact h.2.1 v hv
    · exact hu
  · rw [List.getElem?_set] at hv hd
    by_cases e : i = j
    · rw [if_pos e] at hv hd
      split at hv
      · rename_i hlt
        rw [if_pos (by rw [← h.1]; exact hlt)] at hd
        cases hv; cases hd; exact hx
      · cases hv
    · rw [if_neg e] at hv hd
      exact h.2.2 j v d hv hd

/-- A cell of a typed variable, written. -/
theorem tcell_set {B : Nat} {k : Cfg} {w : World} (hst : St LL B k s w) {id t : Nat} {ds : List AV} {b : Nat} (hid : s[id]? = some (.tcells t ds)) (hb : k.own[id]? = some (.blk b)) {i : Nat} {u : Value} {x : AV} (hu : u.oneCell' = true) (hx : RA k w u x) :
    Ext B k w k (w.setCell ⟨b, i, none⟩ u) ∧ St LL B k (s.set id (.tcells t (ds.set i x))) (w.setCell ⟨b, i, none⟩ u) := by
  obtain ⟨b', us, g1, g2, g3, g4⟩ := hst.tcells hid
  rw [hb] at g1; cases g1
  have hbB := hst.lies id _ b hb rfl
  rw [setCell_eq_setRow w b i _ t (0, 0) u g2]
  obtain ⟨hk, hbl⟩ := keep_setRow (k := k) (w := w) (cs := us.toArray.setIfInBounds i u) hbB.1 g4
  have hm2 := mono_same hk
  exact hst.upd (k' := k) hb (.tcells t (ds.set i x)) (own_set_self hb) (OwnLe.refl _) hk hbl (fun b2 hb2 => by cases hb2; exact ⟨.inl rfl, by rw [setRow_size]; exact hbB.2, hbB.1⟩)
    (fun b2 hlt hne => ⟨setRow_other w b b2 _ (fun e => hne (by rw [e]; rfl)), rfl⟩)
    ⟨us.set i u, by rw [setRow_heap w b _ _ t (0, 0) g2]; simp, RAs_set (g3.mono hm2) hu (hx.mono hm2), g4⟩

def byteRows (l : List UInt8) : List (List D) := l.map fun x => [.sc (.int .u8 x.toNat)]
theorem byteRows_flat (l : List UInt8) : (byteRows l).flatten = l.map fun x => D.sc (.int .u8 x.toNat) := by
  unfold byteRows
  induction l with
  | nil => rfl
  | cons y l ih => simp [ih]
theorem byteRows_RDs (I : Nat → Nat) (w : World) (l : List UInt8) : RDs I w (l.map fun x => Value.int .u8 x.toNat) (byteRows l).flatten := by
  rw [byteRows_flat]
  refine ⟨by simp, fun u hu => ?_, fun i u d hu hd => ?_⟩
  · obtain ⟨y, _, rfl⟩ := List.mem_map.1 hu; rfl
  · rw [List.getElem?_map] at hu hd
    obtain ⟨y, hy, rfl⟩ := Option.map_eq_some_iff.1 hu
    rw [hy] at hd; cases hd; exact .sc _
theorem byteRows_sz (l : List UInt8) : ∀ r ∈ byteRows l, r.length = 1 := fun r hr => by
  unfold byteRows at hr
  obtain ⟨y, _, rfl⟩ := List.mem_map.1 hr; rfl

def okA (id : Nat) : AV → Bool
  | .d (.sc (.pointer none)) => true
  | .ptr i 0 => i == id
  | _ => false
theorem okA_ok {k : Cfg} {w : World} {id b : Nat} {p : Value} {a : AV} (h : okA id a = true) (hr : RA k w p a) (hb : k.own[id]? = some (.blk b)) : p = .pointer none ∨ p = self b := by
  unfold okA at h
  split at h
  · have := hr.d_inv; cases this; exact .inl rfl
  · rename_i i
    obtain rfl : i = id := by simpa using h
    obtain ⟨b', h1, h2⟩ := hr.ptr_inv
    rw [hb] at h1; cases h1
    exact .inr h2
  · cases h

/-- What a write leaves. -/
def spBuf (s : List AObj) (id : Nat) (a : AV) (l : List UInt8) : AV → Option (List AObj)
  | .nil 1 => if okA id a = true ∧ 0 < l.length ∧ l.length ≤ 140737488355328 then some (((s.set id (.tcells 301 [.ptr id 0, .nil 1])) ++ [AObj.row 5 1 l.length]).set id (.tcells 301 [.ptr id 0, .tsl s.length 1 (byteRows l)])) else none
  | .tsl id2 1 rows => if okA id a = true ∧ rowOk 5 1 rows.length s[id2]? = true ∧ rows.length + l.length ≤ 140737488355328 then
      some (((s.set id (.tcells 301 [.ptr id 0, .tsl id2 1 rows])).set id2 (.row 5 1 (rows.length + l.length))).set id (.tcells 301 [.ptr id 0, .tsl id2 1 (rows ++ byteRows l)])) else none
  | _ => none

theorem buf_step {B : Nat} {k : Cfg} {w : World} (hst : St LL B k s w) {id : Nat} {a buf : AV} {l : List UInt8} {s' : List AObj} (hid : s[id]? = some (.tcells 301 [a, buf])) (hsp : spBuf s id a l buf = some s') {b : Nat} (hb : k.own[id]? = some (.blk b)) :
    ∃ p v n xs, w.heap[b]? = some (.cells #[p, v] 301 (0, 0)) ∧ (p = .pointer none ∨ p = self b) ∧ ownsG w B 5 1 v n xs ∧ v.ownBlock ≠ some b ∧ (∀ g, v.ownBlock = some g → g < w.heap.size) ∧ n + l.length ≤ 140737488355328 ∧
      ∀ (wX w2 : World) (v' : Value), Below (w.setCell ⟨b, 0, none⟩ (self b)).heap.size (w.setCell ⟨b, 0, none⟩ (self b)) wX → BufApp wX w2 B n l.length v v' (xs ++ l.map fun x => Value.int .u8 x.toNat) →
        ∃ k', Ext B k w k' (w2.setCell ⟨b, 1, none⟩ v') ∧ St LL B k' s' (w2.setCell ⟨b, 1, none⟩ v') := by
  obtain ⟨b', us, g1, g2, g3, g4⟩ := hst.tcells hid
  rw [hb] at g1; cases g1
  obtain ⟨p, v, rfl⟩ : ∃ p v, us = [p, v] := by
    have := g3.1
    match us, this with
    | [p, v], _ => exact ⟨p, v, rfl⟩
  have hp := g3.2.2 0 p a rfl rfl
  have hv := g3.2.2 1 v buf rfl rfl
  have hw0 : w.heap[b]? = some (.cells #[p, v] 301 (0, 0)) := g2
  have hra0 : RA k w (self b) (.ptr id 0) := .ptr hb
  obtain ⟨he1, hs1⟩ := tcell_set hst hid hb (i := 0) (u := self b) rfl hra0
  have hidlt := (List.getElem?_eq_some_iff.1 hid).1
  have hw1 := setCell_heap hw0 (self b)
  unfold spBuf at hsp
  split at hsp
  · -- no buffer yet
    obtain ⟨⟨hok, hl0, hl1⟩, hsp⟩ := iteI hsp
    obtain rfl := Option.some.inj hsp
    have hv0 := hv.nil_inv
    subst hv0
    refine ⟨p, _, 0, [], hw0, okA_ok hok hp hb, ownsG.of (World.ownsRow_nil w B 5 1), by simp [Value.ownBlock], fun g hg => by simp [Value.ownBlock] at hg, by omega, fun wX w2 v' hbX hba => ?_⟩
    generalize hw1e : w.setCell ⟨b, 0, none⟩ (self b) = w1 at he1 hs1 hw1 hbX
    have heX := Ext.called (k := k) hs1.base hbX
    have hsX := hs1.called hbX
    rcases hba with ⟨h0, _⟩ | ⟨_, hown, hbl, ⟨g, _, hg, _⟩ | ⟨hg, hlt, hgb⟩⟩
    · omega
    · cases hg
    · rw [Nat.zero_add, List.nil_append] at hown
      have hbw : Below wX.heap.size wX w2 := ⟨hgb.os, hgb.tape, hgb.output, hgb.size, fun k hk => hgb.block k hk (by simp)⟩
      have hI : ∀ b', b' < wX.heap.size → updI (bigI k.I w1.heap.size wX) wX.heap.size (l.length * 1) b' = bigI k.I w1.heap.size wX b' := fun b' hb' => updI_ne _ _ (by omega)
      obtain ⟨he2, hs2⟩ := hsX.new hbw hI (.row v' l.length) (.row 5 1 l.length) (fun b' hb' => by rw [show (Own.row v' l.length).block = some wX.heap.size from hg] at hb'; cases hb'; exact ⟨Nat.le_refl _, hlt⟩)
        ⟨rfl, ⟨_, hown⟩, fun g' hg' => by rw [hg] at hg'; cases hg'; exact updI_self ..⟩
      have hid2 : ((s.set id (.tcells 301 ([a, .nil 1].set 0 (.ptr id 0)))) ++ [AObj.row 5 1 l.length])[id]? = some (.tcells 301 [.ptr id 0, .nil 1]) := by
        rw [List.getElem?_append_left (by simpa using hidlt), List.getElem?_set, if_pos rfl, if_pos hidlt]; rfl
      have hown2 : (k.own ++ [Own.row v' l.length])[id]? = some (.blk b) := by
        rw [List.getElem?_append_left (List.getElem?_eq_some_iff.1 hb).1]; exact hb
      have hra : RA ⟨updI (bigI k.I w1.heap.size wX) wX.heap.size (l.length * 1), k.own ++ [Own.row v' l.length]⟩ w2 v' (.tsl s.length 1 (byteRows l)) := by
        refine .tsl (row_RD hown (byteRows_RDs _ _ l) (by simp [byteRows]) (byteRows_sz l) fun g' hg' => ?_) ⟨v', l.length, by rw [← hst.len]; simp, by simp [byteRows], fun _ => rfl⟩
        rw [hg] at hg'; cases hg'
        exact Nat.le_of_eq (updI_self ..).symm
      obtain ⟨a', c', hvf⟩ := ownsG_form hown
      obtain ⟨he3, hs3⟩ := tcell_set hs2 hid2 hown2 (i := 1) (u := v') (by rw [hvf]; rfl) hra
      exact ⟨_, he1.trans (heX.trans (he2.trans he3)), hs3⟩
  · rename_i id2 rows
    obtain ⟨⟨hok, hrow, hl1⟩, hsp⟩ := iteI hsp
    obtain rfl := Option.some.inj hsp
    have hid2 := rowOk_inv hrow
    obtain ⟨hrd, u, n', hku, hle, heq⟩ := hv.tsl_inv
    obtain ⟨v2, xs, hkv, hown, hI⟩ := hst.row hid2
    rw [hku] at hkv; cases hkv
    have hvu := heq rfl
    subst hvu
    have hne : id ≠ id2 := fun e => by rw [e, hid2] at hid; cases hid
    refine ⟨p, v, rows.length, xs, hw0, okA_ok hok hp hb, hown, fun hob => hst.apart id id2 _ _ b hne hb hku rfl hob, fun g hg => (hst.lies id2 _ g hku hg).2, hl1, fun wX w2 v' hbX hba => ?_⟩
    generalize hw1e : w.setCell ⟨b, 0, none⟩ (self b) = w1 at he1 hs1 hw1 hbX
    have heX := Ext.called (k := k) hs1.base hbX
    have hsX := hs1.called hbX
    have hs1id2 : (s.set id (.tcells 301 ([a, .tsl id2 1 rows].set 0 (.ptr id 0))))[id2]? = some (.row 5 1 rows.length) := by rw [List.getElem?_set_ne hne]; exact hid2
    obtain ⟨vX, xsX, hkX, hownX, hIX⟩ := hsX.row hs1id2
    have hkX' : k.own[id2]? = some (.row vX rows.length) := hkX
    rw [hku] at hkX'
    obtain rfl : v = vX := by cases hkX'; rfl
    have hrdX : RD (bigI k.I w1.heap.size wX) wX v (.sl 1 rows) := hrd.mono (he1.mono.trans heX.mono).keep
    have hxsX := row_cells hrdX hownX
    have hxs := row_cells hrd hown
    -- the buffer's cells are what they were
    have fin : ∀ (k2 : Cfg) (w2 : World) (v' : Value), Ext B ⟨bigI k.I w1.heap.size wX, k.own⟩ wX k2 w2 → k2.own = k.own.set id2 (.row v' (rows.length + l.length)) →
        St LL B k2 ((s.set id (.tcells 301 ([a, .tsl id2 1 rows].set 0 (.ptr id 0)))).set id2 (.row 5 1 (rows.length + l.length))) w2 → RD k2.I w2 v' (.sl 1 (rows ++ byteRows l)) →
        ∃ k', Ext B k w k' (w2.setCell ⟨b, 1, none⟩ v') ∧ St LL B k' (((s.set id (.tcells 301 [.ptr id 0, .tsl id2 1 rows])).set id2 (.row 5 1 (rows.length + l.length))).set id (.tcells 301 [.ptr id 0, .tsl id2 1 (rows ++ byteRows l)])) (w2.setCell ⟨b, 1, none⟩ v') := fun k2 w2 v' he2 hko hs2 hrd2 => by
      have h2lt := (List.getElem?_eq_some_iff.1 hku).1
      have hg : ((s.set id (.tcells 301 ([a, .tsl id2 1 rows].set 0 (.ptr id 0)))).set id2 (AObj.row 5 1 (rows.length + l.length)))[id]? = some (.tcells 301 [.ptr id 0, .tsl id2 1 rows]) := by
        rw [List.getElem?_set_ne (Ne.symm hne), List.getElem?_set, if_pos rfl, if_pos hidlt]; rfl
      have ho : k2.own[id]? = some (.blk b) := by rw [hko, List.getElem?_set_ne (Ne.symm hne)]; exact hb
      have hra : RA k2 w2 v' (.tsl id2 1 (rows ++ byteRows l)) := .tsl hrd2 ⟨v', rows.length + l.length, by rw [hko, List.getElem?_set, if_pos rfl, if_pos h2lt], by simp [byteRows], fun _ => rfl⟩
      obtain ⟨a', c', us', hvf, _⟩ := hrd2.sl_inv
      obtain ⟨he3, hs3⟩ := tcell_set hs2 hg ho (i := 1) (u := v') (by rw [hvf]; rfl) hra
      exact ⟨_, he1.trans (heX.trans (he2.trans he3)), hs3⟩
    rcases hba with ⟨h0, rfl, rfl⟩ | ⟨hm, hown', hbl, hcase⟩
    · have hl0 : l = [] := List.eq_nil_of_length_eq_zero h0
      subst hl0
      refine fin _ _ _ (Ext.refl B _ _) ?_ ?_ (by simpa [byteRows] using hrdX)
      · exact own_set_self hku
      · have : ((s.set id (.tcells 301 ([a, .tsl id2 1 rows].set 0 (.ptr id 0)))).set id2 (AObj.row 5 1 (rows.length + ([] : List UInt8).length))) = s.set id (.tcells 301 ([a, .tsl id2 1 rows].set 0 (.ptr id 0))) := by
          obtain ⟨h10, h11⟩ := List.getElem?_eq_some_iff.1 hs1id2
          rw [List.length_nil, Nat.add_zero, ← h11]; exact List.set_getElem_self h10
        rw [this]; exact hsX
    · have hgne : ∀ g, v.ownBlock = some g → g ≠ b := fun g hg e => hst.apart id id2 _ _ b hne hb hku rfl (by rw [← e]; exact hg)
      have hownX' : ownsG wX B 5 1 v rows.length xs := ownsG_same hown fun g hg => by
        have hgl : g < w1.heap.size := by
          have := (hst.lies id2 _ g hku hg).2
          have h2 := he1.below.size
          omega
        rw [hbX.block g hgl, ← hw1e]
        exact setCell_other (hgne g hg)
      have hxs' := row_cells hrdX hownX'
      have hrest : ∃ g', v'.ownBlock = some g' ∧ (v.ownBlock = some g' ∨ (g' = wX.heap.size ∧ wX.heap.size < w2.heap.size)) ∧ (∀ b, b < wX.heap.size → b ≠ g' → w2.heap[b]? = wX.heap[b]?) ∧ (v.ownBlock = some g' → ∀ q x, q < rows.length * 1 → wX.cell? ⟨g', q, none⟩ = some x → w2.cell? ⟨g', q, none⟩ = some x) := by
        rcases hcase with ⟨g, hg1, hg2, hgb⟩ | ⟨hg, hlt, hgb⟩
        · refine ⟨g, hg1, .inl hg2, fun b hb hne => hgb.block b hb (by simpa using hne), fun _ q x hq hc => ?_⟩
          have e1 := hownX'.cells hg2
          have e2 := hown'.cells hg1
          have hl := hownX'.1
          have hxq : xs[q]? = some xs[q] := List.getElem?_eq_getElem (by omega)
          have a1 := e1 q _ hxq
          rw [Addr.add_mid, Nat.zero_add] at a1
          rw [a1] at hc
          obtain rfl := Option.some.inj hc
          have a2 := e2 q xs[q] (by rw [List.getElem?_append_left (by omega)]; exact hxq)
          rw [Addr.add_mid, Nat.zero_add] at a2
          exact a2
        · refine ⟨wX.heap.size, hg, .inr ⟨rfl, hlt⟩, fun b hb _ => hgb.block b hb (by simp), fun hg2 => ?_⟩
          have := (hsX.lies id2 _ _ hkX hg2).2; omega
      obtain ⟨g', hg', hcase', hblk, hpre⟩ := hrest
      obtain ⟨he2, hs2⟩ := hsX.grow (x := (rows.length + l.length) * 1) (ob := .row 5 1 (rows.length + l.length)) hkX hIX hm (by omega) hbl hg' hcase' hblk hpre
        fun _ => ⟨rfl, ⟨_, hown'⟩, fun g hg => by rw [hg'] at hg; cases hg; exact updI_self ..⟩
      refine fin _ _ _ he2 rfl hs2 (row_RD hown' ?_ (by simp [byteRows]) (fun r hr => ?_) fun g hgg => ?_)
      · rw [List.flatten_append]
        exact (hxs'.mono he2.keep).append (byteRows_RDs _ _ l)
      · rcases List.mem_append.1 hr with hr | hr
        · exact rows_sz hrd r hr
        · exact byteRows_sz l r hr
      · rw [hg'] at hgg; cases hgg
        exact Nat.le_of_eq (updI_self ..).symm
  · cases hsp
end
end Go.Proofs.Lh

set_option linter.unusedVariables false
namespace Go.Proofs.Lh
open Go Go.Ab Go.Bb Go.RowKit Go.Proofs.Lg

def spGet (s : List AObj) (id : Nat) : Option (AV × AV) := match s[id]? with
  | some (.tcells 301 [a, b]) => some (a, b)
  | _ => none
theorem spGet_ok {s : List AObj} {id : Nat} {p : AV × AV} (h : spGet s id = some p) : s[id]? = some (.tcells 301 [p.1, p.2]) := by
  unfold spGet at h
  split at h
  · rename_i a b hh; obtain rfl := Option.some.inj h; exact hh
  · cases h

theorem WriteString_runs {s s' : List AObj} {id : Nat} {p : AV × AV} {b : ByteArray} (hg : spGet s id = some p) (h : spBuf s id p.1 b.data.toList p.2 = some s') :
    FnRuns (LLc Tryz.prog) Tryz.prog 253 [.ptr id 0, .d (.sc (.string b))] s (.d (.tup [.sc (.int .i64 b.size), .sc .nilIface])) s' := by
  refine ⟨enters_fn' Tryz.func253 rfl (by rfl), fun B k w vs hst hvs => ?_⟩
  match vs, hvs with
  | [u, v], hvs =>
    obtain ⟨bl, hb, rfl⟩ := (hvs.2 0 u _ rfl rfl).ptr_inv
    have hs := (hvs.2 1 v _ rfl rfl).d_inv
    cases hs
    obtain ⟨p', v', n, xs, h1, h2, h3, h4, h5, h6, h7⟩ := buf_step hst (spGet_ok hg) h hb
    have hl : b.data.toList.length = b.size := by rw [Array.length_toList]; rfl
    refine (WriteString_any (B := B) b h1 h2 h3 h4 (by rw [← hl]; exact h6) hst.base).mono ?_
    rintro e w' ⟨rfl, v2, w2, hba, rfl⟩
    rw [← hl] at hba
    obtain ⟨k', he, hs2⟩ := h7 _ w2 v2 (Below.refl _ _) hba
    refine ⟨_, k', rfl, .d ?_, he, hs2⟩
    refine .tup [.int .i64 b.size, .nilIface] _ rfl fun i u d hu hd => ?_
    match i, hu, hd with
    | 0, hu, hd => cases hu; cases hd; exact .sc _
    | 1, hu, hd => cases hu; cases hd; exact .sc _

theorem WriteByte_runs {s s' : List AObj} {id : Nat} {p : AV × AV} {c : Int} (hc : 0 ≤ c ∧ c < 256) (hg : spGet s id = some p) (h : spBuf s id p.1 [UInt8.ofNat c.toNat] p.2 = some s') :
    FnRuns (LLc Tryz.prog) Tryz.prog 254 [.ptr id 0, .d (.sc (.int .u8 c))] s (.d (.sc .nilIface)) s' := by
  refine ⟨enters_fn' Tryz.func254 rfl (by rfl), fun B k w vs hst hvs => ?_⟩
  match vs, hvs with
  | [u, v], hvs =>
    obtain ⟨bl, hb, rfl⟩ := (hvs.2 0 u _ rfl rfl).ptr_inv
    have hs := (hvs.2 1 v _ rfl rfl).d_inv
    cases hs
    obtain ⟨p', v', n, xs, h1, h2, h3, h4, h5, h6, h7⟩ := buf_step hst (spGet_ok hg) h hb
    have hcc : (((UInt8.ofNat c.toNat).toNat : Nat) : Int) = c := by rw [UInt8.toNat_ofNat']; omega
    refine (WriteByte_any (B := B) c h1 h2 h3 h4 h5 h6 hst.base).mono ?_
    rintro e w' ⟨rfl, v2, w2, hba, rfl⟩
    obtain ⟨k', he, hs2⟩ := h7 _ w2 v2 ((Below.refl _ _).alloc (Nat.le_refl _) (.cells #[.int .u8 c] 5)) (by rw [List.map_cons, List.map_nil, hcc]; exact hba)
    exact ⟨_, k', rfl, .d (.sc _), he, hs2⟩

theorem freeze_cell (w : World) (a q : Addr) (n : Nat) : (w.freeze a n).cell? q = w.cell? q := by
  unfold World.freeze
  split
  · rfl
  · unfold World.cell?
    simp only [Array.getElem?_modify]
    by_cases e : a.block = q.block
    · rw [if_pos e]
      cases h : w.heap[q.block]? with
      | none => rfl
      | some o => cases o <;> rfl
    · rw [if_neg e]
theorem freeze_other (w : World) (a : Addr) (n j : Nat) (h : j ≠ a.block) : (w.freeze a n).heap[j]? = w.heap[j]? := by
  unfold World.freeze
  split
  · rfl
  · simp only [Array.getElem?_modify]
    rw [if_neg (Ne.symm h)]
theorem freeze_size (w : World) (a : Addr) (n : Nat) : (w.freeze a n).heap.size = w.heap.size := by
  unfold World.freeze
  split
  · rfl
  · simp

def spStr (s : List AObj) (id : Nat) : Option (ByteArray × List AObj) := (spGet s id).bind fun p => match p.2 with
  | .tsl id2 1 rows => if rowOk 5 1 rows.length s[id2]? = true ∧ 0 < rows.length then (bytesOfA (rows.flatten.map .d)).map fun l => (⟨l.toArray⟩, s.set id2 .junk) else none
  | _ => none

theorem String_runs {s : List AObj} {id : Nat} {p : ByteArray × List AObj} (h : spStr s id = some p) : FnRuns (LLc Tryz.prog) Tryz.prog 244 [.ptr id 0] s (.d (.sc (.string p.1))) p.2 := by
  obtain ⟨q, hg, h1⟩ := bindI h
  obtain ⟨a, buf⟩ := q
  dsimp only at h1
  split at h1
  · rename_i id2 rows
    obtain ⟨⟨hrow, hpos⟩, h2⟩ := iteI h1
    obtain ⟨l, hl, rfl⟩ := mapI h2
    have hid2 := rowOk_inv hrow
    have hid := spGet_ok hg
    refine ⟨enters_fn' Tryz.func244 rfl (by rfl), fun B k w vs hst hvs => ?_⟩
    match vs, hvs with
    | [u], hvs =>
      obtain ⟨b, hb, rfl⟩ := (hvs.2 0 u _ rfl rfl).ptr_inv
      obtain ⟨b', us, g1, g2, g3, g4⟩ := hst.tcells hid
      rw [hb] at g1; cases g1
      obtain ⟨p, v, rfl⟩ : ∃ p v, us = [p, v] := by
        have := g3.1
        match us, this with
        | [p, v], _ => exact ⟨p, v, rfl⟩
      have hv := g3.2.2 1 v _ rfl rfl
      have hw0 : w.heap[b]? = some (.cells #[p, v] 301 (0, 0)) := g2
      obtain ⟨hrd, u2, n', hku, hle, heq⟩ := hv.tsl_inv
      obtain ⟨v2, xs, hkv, hown, hI⟩ := hst.row hid2
      rw [hku] at hkv; cases hkv
      have hvu := heq rfl
      subst hvu
      have hxs := row_cells hrd hown
      have hx2 := bytesOfA_ok (RDs.toA (k := k) hxs) hl
      have hsz := rows_sz hrd
      have hfl : rows.flatten.length = rows.length := by
        have := flatten_len rows hsz
        rw [Nat.mul_one] at this; exact this
      have hll : l.length = rows.length := by
        have h3 := hxs.1
        rw [hx2, List.length_map, hfl] at h3; exact h3
      rcases hown.2 with ⟨_, h0⟩ | ⟨g, cap, cur, fz, hvv, hgB, hgh, hnc, hcm, hcs, htake, hfz⟩
      · omega
      · have hnel : l ≠ [] := fun e => by rw [e] at hll; simp at hll; omega
        rw [hvv, ← hll] at hw0
        have hlt : g < w.heap.size := (Array.getElem?_eq_some_iff.1 hgh).1
        refine (String_any (fz := fz) l hnel hw0 hgh (by rw [hll]; exact hnc) hcm hcs fun j x hj => ?_).mono ?_
        · have := hown.cells (g := g) (by rw [hvv]; rfl) j (.int .u8 x.toNat) (by rw [hx2, List.getElem?_map, hj]; rfl)
          rw [Addr.add_mid, Nat.zero_add] at this; exact this
        · rintro e w' ⟨rfl, rfl⟩
          have hk : KeepI k.I w k.I (w.drew.freeze ⟨g, 0, none⟩ l.length) := fun b' q u hq hc => ⟨hq, by rw [freeze_cell, World.cell?_drew]; exact hc⟩
          have hbl : Below B w (w.drew.freeze ⟨g, 0, none⟩ l.length) := Go.Lib.below_freeze (Below.drew (Below.refl B w)) (p := ⟨g, 0, none⟩) hgB _
          have hub : (Own.row v rows.length).block = some g := by rw [hvv]; rfl
          obtain ⟨he, hs2⟩ := hst.upd (k' := k) hku .junk (own_set_self hku) (OwnLe.refl _) hk hbl (fun b2 hb2 => by rw [hub] at hb2; cases hb2; exact ⟨.inl hub, by rw [freeze_size]; exact hlt, hgB⟩)
            (fun b2 hlt2 hne => ⟨by rw [freeze_other _ _ _ _ (fun e => hne (by rw [hub, e]))]; rfl, rfl⟩) trivial
          exact ⟨_, k, rfl, .d (.sc _), he, hs2⟩
  · cases h1
end Go.Proofs.Lh
