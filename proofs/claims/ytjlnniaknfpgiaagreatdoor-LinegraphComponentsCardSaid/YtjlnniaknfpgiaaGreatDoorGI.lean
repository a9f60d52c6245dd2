/-
  Part GI of this claim's proof. Joined by merge.py from the texts of wip/tpl.
-/
import Derived.Test.YtjlnniaknfpgiaaGreatDoorGH
import Derived.TacticsIn
import Derived.RangeFuncNested
set_option linter.unusedVariables false
set_option linter.unusedSimpArgs false
set_option linter.unnecessarySimpa false
set_option linter.unusedVariables false
namespace Go.Bb
open Go Go.RowKit Go.Ab Go.Proofs.Lg

section
variable {P : Program} {N : Nat} {rd : Option Nat}

theorem wpC_ok : ∀ {cs : List CO} {fr : Fr} {s : List AObj} {K : Fr → List AObj → List Nat → Prop} {acc : List Nat}, wpC P cs K acc fr s →
    ∃ fl fr' s', K fr' s' (acc.reverse ++ fl) ∧ ∀ (mus : List Nat) (ops : Array Oper) (l : List Oper), compL P mus ops l = some cs → AOps (LLc P) P ops l fr s fl fr' s'
  | [], fr, s, K, acc, hw => ⟨[], fr, s, by simpa [wpC] using hw, fun mus ops l hl => by obtain rfl := compL_nil hl; exact .nil fr s⟩
  | c :: cs, fr, s, K, acc, hw => by
    unfold wpC at hw
    cases hg : gdC fr c.g with
    | none => rw [hg] at hw; exact hw.elim
    | some b =>
      rw [hg] at hw
      obtain ⟨w1, w2⟩ := hw
      cases b with
      | false =>
        obtain ⟨fl, fr', s', hk, ha⟩ := wpC_ok (w1 rfl)
        refine ⟨0 :: fl, fr', s', by simpa using hk, fun mus ops l hl => ?_⟩
        obtain ⟨o, l', rfl, h1, h2⟩ := compL_cons hl
        obtain ⟨hci, hdst⟩ := compO_inv h1
        have ha' := ha mus ops l' h2
        rw [hdst] at ha'
        exact .skip o l' fr s fl fr' s' (by rw [← gdC_gd h1]; exact hg) ha'
      | true =>
        have w3 := w2 rfl
        split at w3
        · rename_i cl xs hcall
          split at w3
          · rename_i cv vs hcv hvs
            have op : ∀ (mus : List Nat) (o : Oper), compOp P mus o = some c.ci → ∀ {s s' : List AObj} {d : AV}, CalRuns (LLc P) P cv vs s d s' → AOp (LLc P) P o fr s d s' := fun mus o hci s s' d hr => by
              rw [hcall] at hci
              obtain ⟨p, ps, ts, ho, hx, hp⟩ := compOp_call hci
              exact ok_call ho (fun k w a hops => cal_fn hcv hp hops) hx hvs hr
            rcases w3 with ⟨d, hr, hk⟩ | ⟨d, s1, hr, hk⟩ | ⟨d, hr, hk⟩ | ⟨d, xs', hr, hk⟩ | ⟨d, s1, id, hr, hset, hk⟩
            · obtain ⟨fl, fr', s', hk', ha⟩ := wpC_ok hk
              refine ⟨0 :: fl, fr', s', by simpa using hk', fun mus ops l hl => ?_⟩
              obtain ⟨o, l', rfl, h1, h2⟩ := compL_cons hl
              obtain ⟨hci, hdst⟩ := compO_inv h1
              replace hci := hci.resolve_right fun h => by rw [hcall] at h; cases h.1
              have ha' := ha mus ops l' h2
              rw [hdst] at ha'
              exact .free o l' fr s _ fl fr' s' (by rw [← gdC_gd h1]; exact hg) (fun s2 => op mus o hci (hr s2)) ha'
            · obtain ⟨fl, fr', s', hk', ha⟩ := wpC_ok hk
              refine ⟨2 :: fl, fr', s', by simpa using hk', fun mus ops l hl => ?_⟩
              obtain ⟨o, l', rfl, h1, h2⟩ := compL_cons hl
              obtain ⟨hci, hdst⟩ := compO_inv h1
              replace hci := hci.resolve_right fun h => by rw [hcall] at h; cases h.1
              have ha' := ha mus ops l' h2
              rw [hdst] at ha'
              exact .eff o l' fr s d s1 fl fr' s' (by rw [← gdC_gd h1]; exact hg) (op mus o hci hr) ha'
            · obtain ⟨fl, fr', s', hk', ha⟩ := wpC_ok hk
              refine ⟨1 :: fl, fr', s', by simpa using hk', fun mus ops l hl => ?_⟩
              obtain ⟨o, l', rfl, h1, h2⟩ := compL_cons hl
              obtain ⟨hci, hdst⟩ := compO_inv h1
              replace hci := hci.resolve_right fun h => by rw [hcall] at h; cases h.1
              have ha' := ha mus ops l' h2
              rw [hdst] at ha'
              exact .reads o l' fr s d fl fr' s' (by rw [← gdC_gd h1]; exact hg) (fun s2 hag => op mus o hci (hr s2 hag)) ha'
            · obtain ⟨fl, fr', s', hk', ha⟩ := wpC_ok hk
              refine ⟨3 :: fl, fr', s', by simpa using hk', fun mus ops l hl => ?_⟩
              obtain ⟨o, l', rfl, h1, h2⟩ := compL_cons hl
              obtain ⟨hci, hdst⟩ := compO_inv h1
              replace hci := hci.resolve_right fun h => by rw [hcall] at h; cases h.1
              have ha' := ha mus ops l' h2
              rw [hdst] at ha'
              exact .make o l' fr s d xs' fl fr' s' (by rw [← gdC_gd h1]; exact hg) (fun s2 hag hh => op mus o hci (hr s2 hag hh)) ha'
            · obtain ⟨fl, fr', s', hk', ha⟩ := wpC_ok hk
              refine ⟨(5 + 2 * id) :: fl, fr', s', by simpa using hk', fun mus ops l hl => ?_⟩
              obtain ⟨o, l', rfl, h1, h2⟩ := compL_cons hl
              obtain ⟨hci, hdst⟩ := compO_inv h1
              replace hci := hci.resolve_right fun h => by rw [hcall] at h; cases h.1
              have ha' := ha mus ops l' h2
              rw [hdst] at ha'
              exact .effAt id o l' fr s d s1 fl fr' s' (by rw [← gdC_gd h1]; exact hg) (op mus o hci hr) hset ha'
          · exact w3.elim
        · split at w3
          · rename_i d s1 hsem
            obtain ⟨fl, fr', s', hk, ha⟩ := wpC_ok w3
            have ht : c.ci.touch fr = 0 ∨ c.ci.touch fr = 1 ∨ c.ci.touch fr = 2 ∨ c.ci.touch fr = 3 := by
              rcases Nat.lt_or_ge (c.ci.touch fr) 2 with h | h
              · omega
              · have : c.ci.touch fr ≤ 3 := by
                  generalize c.ci = ci
                  cases ci <;> simp only [CI.touch] <;> first | exact appT_le _ | (split <;> omega) | omega
                omega
            refine ⟨c.ci.mark fr :: fl, fr', s', by simpa using hk, fun mus ops l hl => ?_⟩
            obtain ⟨o, l', rfl, h1, h2⟩ := compL_cons hl
            obtain ⟨hci, hdst⟩ := compO_inv h1
            replace hci := hci.resolve_right fun h => by rw [h.1] at hsem; cases hsem
            have ha' := ha mus ops l' h2
            rw [hdst] at ha'
            have hg' : gd ops fr o = some true := by rw [← gdC_gd h1]; exact hg
            rcases ht with ht | ht | ht | ht
            · have := sem_read hsem (by omega)
              subst this
              have hm : c.ci.mark fr = 0 := by unfold CI.mark markOf; rw [ht]; rfl
              rw [hm]
              refine .free o l' fr _ d fl fr' s' hg' (fun s2 => compOp_ok hci (sem_local hsem (by omega) fun id hid => ?_)) ha'
              have hu := touch_use (fr := fr) (ci := c.ci) (by omega)
              rw [hid, ht] at hu; cases hu
            · have := sem_read hsem (by omega)
              subst this
              have hu := touch_use (fr := fr) (ci := c.ci) (by omega)
              cases hus : c.ci.use fr with
              | none => rw [hus, ht] at hu; cases hu
              | some id =>
                have hm : c.ci.mark fr = 4 + 2 * id := by unfold CI.mark markOf; rw [ht, hus]; rfl
                rw [hm]
                exact .readsAt id o l' fr _ d fl fr' s' hg' (op_readsAt hci hsem ht hus) ha'
            · cases hws : c.ci.wr fr with
              | none =>
                have hm : c.ci.mark fr = 2 := by unfold CI.mark markOf; rw [ht, hws]; rfl
                rw [hm]; exact .eff o l' fr s d s1 fl fr' s' hg' (compOp_ok hci hsem) ha'
              | some id =>
                have hm : c.ci.mark fr = 5 + 2 * id := by unfold CI.mark markOf; rw [ht, hws]; rfl
                rw [hm]; exact .effAt id o l' fr s d s1 fl fr' s' hg' (compOp_ok hci hsem) (sem_set hsem hws) ha'
            · obtain ⟨x, rfl, hf⟩ := compOp_mk hci hsem ht
              have hm : c.ci.mark fr = 3 := by unfold CI.mark markOf; rw [ht]; rfl
              rw [hm]; exact .make o l' fr s d x fl fr' s' hg' hf ha'
          · exact w3.elim

/-! ### The order check, in parts -/

/-- Do two that touch own blocks wait for one another? -/
def ordF (bf : List Nat) (fl : List Nat) : Bool :=
  (List.range fl.length).all fun j => fl.getD j 0 == 0 || (List.range j).all fun i => !conf (fl.getD i 0) (fl.getD j 0) || (bf.getD j 0).testBit i

theorem ordOk_parts {ops : Array Oper} {fl : List Nat} (h0 : ordB ops [] = true) (hlen : fl.length = ops.size) (h : ordF (Region.before ops).toList fl = true) : OrdOk ops (anc (Region.before ops)) (fun i => fl.getD i 0) := by
  have h1 := ordOk_of h0
  refine ⟨h1.back, h1.up, h1.names, fun i j hij hj hf => ?_⟩
  unfold ordF at h
  simp only [List.all_eq_true, List.mem_range] at h
  have h2 := h j (by omega)
  simp only [Bool.or_eq_true, List.all_eq_true, List.mem_range, beq_iff_eq] at h2
  rcases h2 with h2 | h2
  · exfalso
    have hf' : conf (fl.getD i 0) (fl.getD j 0) = true := hf
    rw [h2] at hf'
    simp [conf, isE, isW, isRd] at hf'
  · rcases h2 i hij with h3 | h3
    · have hf' : conf (fl.getD i 0) (fl.getD j 0) = true := hf
      rw [hf'] at h3; cases h3
    · unfold anc
      have : (Region.before ops).toList.getD j 0 = (Region.before ops).getD j 0 := by simp [List.getD_eq_getElem?_getD, Array.getD_eq_getD_getElem?]
      rw [← this]; exact h3

/-- Told more coarsely. -/
def coarse (x : Nat) : Nat := if x < 4 then x else if x % 2 = 0 then 1 else 2
theorem coarse_rd (b : Nat) : coarse (4 + 2 * b) = 1 := by unfold coarse; rw [if_neg (by omega), if_pos (by omega)]
theorem coarse_wr (b : Nat) : coarse (5 + 2 * b) = 2 := by unfold coarse; rw [if_neg (by omega), if_neg (by omega)]
theorem conf_coarse {a b : Nat} (h : conf a b = true) : conf (coarse a) (coarse b) = true := by
  have cs : ∀ x, (x < 4 ∧ coarse x = x) ∨ (∃ c, x = 4 + 2 * c) ∨ ∃ c, x = 5 + 2 * c := fun x => by
    by_cases h : x < 4
    · exact .inl ⟨h, if_pos h⟩
    · by_cases h2 : x % 2 = 0
      · exact .inr (.inl ⟨(x - 4) / 2, by omega⟩)
      · exact .inr (.inr ⟨(x - 5) / 2, by omega⟩)
  have small : ∀ x, x < 4 → x = 0 ∨ x = 1 ∨ x = 2 ∨ x = 3 := fun x h => by omega
  rcases cs a with ⟨ha, ea⟩ | ⟨c, ea⟩ | ⟨c, ea⟩ <;> rcases cs b with ⟨hb, eb⟩ | ⟨e, eb⟩ | ⟨e, eb⟩
  · rw [ea, eb]; exact h
  · subst eb; rw [ea, coarse_rd]
    rcases small a ha with rfl | rfl | rfl | rfl <;> simp [conf, isE, isW, isRd] at h ⊢ <;> omega
  · subst eb; rw [ea, coarse_wr]
    rcases small a ha with rfl | rfl | rfl | rfl <;> simp [conf, isE, isW, isRd] at h ⊢ <;> omega
  · subst ea; rw [eb, coarse_rd]
    rcases small b hb with rfl | rfl | rfl | rfl <;> simp [conf, isE, isW, isRd] at h ⊢ <;> omega
  · subst ea; subst eb; exfalso
    unfold conf isE isW isRd at h
    simp at h; omega
  · subst ea; subst eb; rw [coarse_rd, coarse_wr]; rfl
  · subst ea; rw [eb, coarse_wr]
    rcases small b hb with rfl | rfl | rfl | rfl <;> simp [conf, isE, isW, isRd] at h ⊢ <;> omega
  · subst ea; subst eb; rw [coarse_rd, coarse_wr]; rfl
  · subst ea; subst eb; rw [coarse_wr, coarse_wr]; rfl
theorem ordF_coarse {bf fl : List Nat} (h : ordF bf (fl.map coarse) = true) : ordF bf fl = true := by
  unfold ordF at h ⊢
  rw [List.length_map] at h
  have e : ∀ i, (fl.map coarse).getD i 0 = coarse (fl.getD i 0) := fun i => by
    simp only [List.getD_eq_getElem?_getD, List.getElem?_map]
    cases fl[i]? <;> rfl
  simp only [List.all_eq_true, List.mem_range, Bool.or_eq_true, beq_iff_eq, Bool.not_eq_true', e] at h ⊢
  intro j hj
  rcases h j hj with h1 | h1
  · left
    unfold coarse at h1
    split at h1
    · exact h1
    · split at h1 <;> cases h1
  · refine .inr fun i hi => ?_
    rcases h1 i hi with h2 | h2
    · left
      cases hc : conf (fl.getD i 0) (fl.getD j 0) with
      | false => rfl
      | true => have := conf_coarse hc; rw [h2] at this; cases this
    · exact .inr h2

/-- A list of operations in the order of the text. -/
theorem wpList_aops {LL : Nat → Code → CC → Prop} {ops : Array Oper} {B : Nat} {D : List Deferred} {r : Option Nat} {l : List Oper} {fr : Fr} {s : List AObj} {fl : List Nat} {fr' : Fr} {s' : List AObj} (h : AOps LL P ops l fr s fl fr' s') {Q : Exit → Fr → List AObj → Prop} (hQ : Q .normal fr' s')
    (hN : ∀ o ∈ l, ∀ d, o.dst = some d → d < N) (hnd : ∀ o ∈ l, notDefer o = true) {k0 : Cfg} {w0 : World} : ∀ (k : Cfg) (a : Act) (w : World), a.tmps.size = N → a.defers = D → FR k w a fr → St LL B k s w → Ext B k0 w0 k w →
    wpListIn (FW r) 0 P ops (Post LL B N D k0 w0 Q) l a w := by
  have step : ∀ {o : Oper} {rest : List Oper} {fr : Fr} {s : List AObj} {d : AV} {s1 : List AObj} {k : Cfg} {a : Act} {w : World}, gd ops fr o = some true → AOp LL P o fr s d s1 → notDefer o = true → (∀ d, o.dst = some d → d < N) →
      (∀ (k : Cfg) (a : Act) (w : World), a.tmps.size = N → a.defers = D → FR k w a (putF fr o.dst d) → St LL B k s1 w → Ext B k0 w0 k w → wpListIn (FW r) 0 P ops (Post LL B N D k0 w0 Q) rest a w) →
      a.tmps.size = N → a.defers = D → FR k w a fr → St LL B k s w → Ext B k0 w0 k w → wpListIn (FW r) 0 P ops (Post LL B N D k0 w0 Q) (o :: rest) a w := fun hg ho hnd hN ih ha hd hf hs he => by
    refine wpListIn_step fun K hK => ?_
    rw [if_pos (gd_wanted hg fun t x _ hx => hf t x hx)]
    refine Oper.wpIn_mono ?_ (ho B _ _ _ (hf.ops _) hs hnd r _)
    rintro _ w' ⟨v, rfl, k', hv, he', hs'⟩
    exact hK _ _ (ih k' _ w' (by rw [put_size, ha]) (by rw [put_defers', hd]) ((hf.mono he'.mono).put hv (by rw [ha]; exact hN)) hs' (he.trans he'))
  induction h with
  | nil fr s => exact fun k a w ha hd hf hs he => ⟨fr, s, k, hQ, ha, hd, he, hf, hs⟩
  | skip o rest fr s fl fr' s' hg _ ih =>
    intro k a w ha hd hf hs he
    refine wpListIn_step fun K hK => ?_
    rw [if_neg (by rw [gd_wanted hg fun t x _ hx => hf t x hx]; simp)]
    exact ⟨fun f _ => FW_fn r f, hK _ _ (ih hQ (fun o ho => hN o (by simp [ho])) (fun o ho => hnd o (by simp [ho])) k _ w (by rw [put_size, ha]) (by rw [put_defers', hd]) (hf.put RA.undf (by rw [ha]; exact hN o (by simp))) hs he)⟩
  | free o rest fr s d fl fr' s' hg ho _ ih =>
    intro k a w ha hd hf hs he
    exact step hg (ho s) (hnd o (by simp)) (hN o (by simp)) (ih hQ (fun o ho => hN o (by simp [ho])) (fun o ho => hnd o (by simp [ho]))) ha hd hf hs he
  | reads o rest fr s d fl fr' s' hg ho _ ih =>
    intro k a w ha hd hf hs he
    exact step hg (ho s (Agrees.refl s)) (hnd o (by simp)) (hN o (by simp)) (ih hQ (fun o ho => hN o (by simp [ho])) (fun o ho => hnd o (by simp [ho]))) ha hd hf hs he
  | readsAt b o rest fr s d fl fr' s' hg ho _ ih =>
    intro k a w ha hd hf hs he
    exact step hg (ho s (AgreesAt.refl b s)) (hnd o (by simp)) (hN o (by simp)) (ih hQ (fun o ho => hN o (by simp [ho])) (fun o ho => hnd o (by simp [ho]))) ha hd hf hs he
  | effAt b o rest fr s d s1 fl fr' s' hg ho _ _ ih =>
    intro k a w ha hd hf hs he
    exact step hg ho (hnd o (by simp)) (hN o (by simp)) (ih hQ (fun o ho => hN o (by simp [ho])) (fun o ho => hnd o (by simp [ho]))) ha hd hf hs he
  | make o rest fr s d x fl fr' s' hg ho _ ih =>
    intro k a w ha hd hf hs he
    exact step hg (by have := ho s (Agrees.refl s) (Holes.end' s _); rw [fill_end] at this; exact this) (hnd o (by simp)) (hN o (by simp)) (ih hQ (fun o ho => hN o (by simp [ho])) (fun o ho => hnd o (by simp [ho]))) ha hd hf hs he
  | eff o rest fr s d s1 fl fr' s' hg ho _ ih =>
    intro k a w ha hd hf hs he
    exact step hg ho (hnd o (by simp)) (hN o (by simp)) (ih hQ (fun o ho => hN o (by simp [ho])) (fun o ho => hnd o (by simp [ho]))) ha hd hf hs he

/-- What is to hold behind a region. -/
def OpsQ (dr : Bool) (bf : List Nat) (Q : Exit → Fr → List AObj → Prop) (fr : Fr) (s : List AObj) (fl : List Nat) : Prop := (dr = true → ordF bf fl = true) ∧ Q .normal fr s

theorem compOp_nd {mus : List Nat} {o : Oper} {ci : CI} (h : compOp P mus o = some ci) : notDefer o = true := by
  unfold notDefer
  split
  · rename_i c ho; unfold compOp at h; rw [ho] at h; cases h
  · rfl
theorem compL_nd {mus : List Nat} {ops : Array Oper} : ∀ {l : List Oper} {cs : List CO}, compL P mus ops l = some cs → ∀ o ∈ l, notDefer o = true
  | [], _, _, o, ho => by cases ho
  | o' :: l, cs, h, o, ho => by
    unfold compL at h
    split at h
    · rename_i c cs' h1 h2
      rcases List.mem_cons.1 ho with rfl | ho
      · rcases (compO_inv h1).1 with h3 | h3
        · exact compOp_nd h3
        · exact h3.2
      · exact compL_nd h2 o ho
    · cases h

theorem AC.ops {dr : Bool} {bf : List Nat} {cs : List CO} {Q : Exit → Fr → List AObj → Prop} {fr : Fr} {s : List AObj} (h : wpC P cs (OpsQ dr bf Q) [] fr s) : AC P N rd (.ops dr bf cs) Q fr s := by
  obtain ⟨fl, fr', s', hk, ha⟩ := wpC_ok h
  rw [List.reverse_nil, List.nil_append] at hk
  obtain ⟨hor, hQ⟩ := hk
  refine ⟨.normal, fr', s', hQ, ?_⟩
  rintro c ⟨mus, hc⟩
  replace hc : comp P mus N c = some (.ops dr bf cs) := hc
  cases c with
  | region id ops dr' =>
    unfold comp at hc
    split at hc
    · rename_i hcond
      obtain ⟨l, hl, he⟩ := map_inv hc
      injection he with e1 e2 e3
      subst e1; subst e3
      have hA := ha mus ops ops.toList hl
      have hnd : ∀ o ∈ ops, notDefer o = true := fun o ho => compL_nd hl o (by simpa using ho)
      simp only [Bool.and_eq_true, Bool.or_eq_true, Bool.not_eq_true'] at hcond
      have hN' : ∀ o ∈ ops, ∀ d, o.dst = some d → d < N := fun o ho d hdst => by
        have := Array.all_eq_true_iff_forall_mem.1 hcond.1 o ho
        simpa [hdst] using this
      intro B k a w r h0 h1 h2 h3
      have fin : ∀ (e : Exit) (a' : Act) (w' : World), Post (LLc P) B N a.defers k w (fun e fr s => e = .normal ∧ fr = fr' ∧ s = s') e a' w' → Ends (LLc P) N B k a.defers w .normal fr' s' e a' w' := by
        rintro e a' w' ⟨_, _, k', ⟨rfl, rfl, rfl⟩, q1, q2, q3, q4, q5⟩
        exact ⟨rfl, k', q1, Marks.same q2, q3, q4, q5⟩
      cases dr' with
      | false => exact wpIn_mono (wpIn_region_list (wpList_aops (Q := fun e fr s => e = .normal ∧ fr = fr' ∧ s = s') hA ⟨rfl, rfl, rfl⟩ (fun o ho => hN' o (by simpa using ho)) (fun o ho => hnd o (by simpa using ho)) k a w h1 rfl h2 h3 (Ext.refl B k w))) fin
      | true =>
        obtain ⟨hm, ho⟩ := hcond.2.resolve_left (by simp)
        simp only [if_true] at e2
        subst e2
        refine wpIn_mono (wpIn_region_any hm ?_) fin
        obtain ⟨frs, ss, ds, wt, t1, t2, t3, t4, t5, t6, t7⟩ := txt_of hA
        have hget : ∀ (i : Nat) (o : Oper), ops[i]? = some o → ops.toList[i]? = some o := fun i o ho => by simpa using ho
        have hT : Txt (LLc P) P ops frs ss ds wt (fun i => fl.getD i 0) := by
          have at' : ∀ (i : Nat) (hi : i < ops.size), ops.toList[i]? = some ops[i] := fun i hi => hget i _ (Array.getElem?_eq_getElem hi)
          exact {
            guard := fun i o ho => (t6 i o (hget i o ho)).1
            next := fun i o ho => (t6 i o (hget i o ho)).2.1
            skip := fun i o ho => (t6 i o (hget i o ho)).2.2.1
            free := fun i o ho => (t6 i o (hget i o ho)).2.2.2.1
            step := fun i o ho => (t6 i o (hget i o ho)).2.2.2.2.1
            reads := fun i o ho => (t6 i o (hget i o ho)).2.2.2.2.2.2.1
            readsAt := fun b i o ho => (t6 i o (hget i o ho)).2.2.2.2.2.2.2.2.1 b
            make := fun i o ho hh => (t6 i o (hget i o ho)).2.2.2.2.2.2.2.1 hh
            setAt := fun b i hi hh => (t6 i _ (at' i hi)).2.2.2.2.2.2.2.2.2 b hh
            still := fun i hi hh => (t6 i _ (at' i hi)).2.2.2.2.2.1 hh
            off := t7 }
        subst t1; subst t2; subst t3; subst t4
        have hz : (Array.replicate ops.size false).size = ops.size := by simp
        have hno : ∀ i, (Array.replicate ops.size false).getD i false = false := fun i => by
          rw [Array.getD_eq_getD_getElem?, Array.getElem?_replicate]; split <;> rfl
        refine region_any hT (ordOk_parts ho (by simpa using t5) (hor rfl)) hN' hnd (Q := fun e fr s => e = .normal ∧ fr = _ ∧ s = _) ⟨rfl, by simp, by simp⟩ ops.size (Array.replicate ops.size false) (List.range ops.size) k a _ (by simp) (fun i hi _ => by simpa using hi) ?_
        refine ⟨hz, fun j hj => (by rw [hno] at hj; cases hj), h1, rfl, Ext.drew B k w, fun t x hx => ?_, 0, 0, _, Nat.le_refl _, by omega, fun i hi => by omega, fun i _ _ _ => hno i, fun i h1 h2 => by omega, Hol.refl .., h3.drew⟩
        refine (FR.mono (Ext.drew B k w).mono h2) t x ?_
        rw [← hx, valS_drop (ops := ops) ds (frs 0) _ t 0 ops.size (by omega) fun i _ _ _ => hno i]
        rfl
    · cases hc
  | seq a b => unfold comp at hc; split at hc <;> cases hc
  | cond c a b => unfold comp at hc; split at hc <;> cases hc
  | block id c => unfold comp at hc; obtain ⟨_, _, he⟩ := map_inv hc; cases he
  | loop c => unfold comp at hc; obtain ⟨_, _, he⟩ := map_inv hc; cases he
  | rangeFunc f ps a b =>
    unfold comp at hc
    split at hc
    · split at hc <;> cases hc
    · cases hc
  | _ => cases hc
end
end Go.Bb

set_option linter.unusedVariables false
namespace Go.Bb
open Go Go.RowKit Go.Ab Go.Proofs.Lg

section
variable {P : Program} {N : Nat} {rd : Option Nat} {Q : Exit → Fr → List AObj → Prop} {fr : Fr} {s : List AObj}

theorem AC.mono {cc : CC} {Q' : Exit → Fr → List AObj → Prop} (h : AC P N rd cc Q fr s) (hq : ∀ e fr s, Q e fr s → Q' e fr s) : AC P N rd cc Q' fr s :=
  let ⟨e, fr', s', q, hr⟩ := h; ⟨e, fr', s', hq _ _ _ q, hr⟩
theorem AC.frame {cc : CC} {fr0 : Fr} (h : AC P N rd cc Q fr0 s) (hf : ∀ t x, look fr0 t = some x → look fr t = some x) : AC P N rd cc Q fr s :=
  let ⟨e, fr', s', q, hr⟩ := h; ⟨e, fr', s', q, fun c hc => (hr c hc).frame hf⟩

theorem comp_inv {mus : List Nat} {c : Code} {cc : CC} (h : comp P mus N c = some cc) : match cc with
    | .skip => c = .skip ∨ ∃ l, c = .label l
    | .seq x y => ∃ a b, c = .seq a b ∧ comp P mus N a = some x ∧ comp P mus N b = some y
    | .cond p x y => ∃ q a b, c = .cond q a b ∧ cX P 0 q = some p ∧ comp P mus N a = some x ∧ comp P mus N b = some y
    | .block id x => ∃ a, c = .block id a ∧ comp P mus N a = some x
    | .loop x => ∃ a, c = .loop a ∧ comp P mus N a = some x
    | .exit id => c = .exit id
    | .ret => c = .ret
    | .rng n f ps x y => n = N ∧ ∃ g qs a b, c = .rangeFunc g qs a b ∧ cX P 0 g = some f ∧ qs.toList = ps ∧ comp P mus N a = some x ∧ comp P mus N b = some y ∧ qs.all (fun t => decide (t < N)) = true
    | .ops _ _ _ => True
    | .trim _ _ => True := by
  cases c with
  | skip => simp [comp] at h; subst h; exact .inl rfl
  | label l => simp [comp] at h; subst h; exact .inr ⟨l, rfl⟩
  | region id ops dr =>
    unfold comp at h
    split at h
    · obtain ⟨l, _, rfl⟩ := map_inv h; trivial
    · cases h
  | seq a b =>
    unfold comp at h
    split at h
    · rename_i x y h1 h2; obtain rfl := Option.some.inj h; exact ⟨a, b, rfl, h1, h2⟩
    · cases h
  | cond p a b =>
    unfold comp at h
    split at h
    · rename_i p' x y h1 h2 h3; obtain rfl := Option.some.inj h; exact ⟨p, a, b, rfl, h1, h2, h3⟩
    · cases h
  | block id a => unfold comp at h; obtain ⟨x, hx, rfl⟩ := map_inv h; exact ⟨a, rfl, hx⟩
  | loop a => unfold comp at h; obtain ⟨x, hx, rfl⟩ := map_inv h; exact ⟨a, rfl, hx⟩
  | exit id => simp [comp] at h; subst h; rfl
  | ret => simp [comp] at h; subst h; rfl
  | rangeFunc f ps a b =>
    unfold comp at h
    split at h
    · rename_i f' x y h1 h2 h3
      split at h
      · rename_i h4; obtain rfl := Option.some.inj h; exact ⟨rfl, f, ps, a, b, rfl, h1, rfl, h2, h3, h4⟩
      · cases h
    · cases h
  | scope a => simp [comp] at h
  | goto l => simp [comp] at h
  | refuse w => simp [comp] at h

theorem AC.skip (h : Q .normal fr s) : AC P N rd .skip Q fr s := ⟨_, _, _, h, fun c ⟨mus, hc⟩ => by
  rcases comp_inv hc with rfl | ⟨l, rfl⟩
  · exact fun _ _ _ _ _ _ h1 h2 h3 => wpIn_skip (Ends.now h1 h2 h3)
  · exact fun _ _ _ _ _ _ h1 h2 h3 => wpIn_label (Ends.now h1 h2 h3)⟩
theorem AC.exit {id : Nat} (h : Q (.exit id) fr s) : AC P N rd (.exit id) Q fr s := ⟨_, _, _, h, fun c ⟨mus, hc⟩ => by
  obtain rfl : c = .exit id := comp_inv hc
  exact fun _ _ _ _ _ _ h1 h2 h3 => wpIn_exit (Ends.now h1 h2 h3)⟩
theorem AC.ret (h : Q .ret fr s) : AC P N rd .ret Q fr s := ⟨_, _, _, h, fun c ⟨mus, hc⟩ => by
  obtain rfl : c = .ret := comp_inv hc
  exact fun _ _ _ _ _ _ h1 h2 h3 => wpIn_ret (Ends.now h1 h2 h3)⟩

theorem AC.seq {x y : CC} (h : AC P N rd x (SeqQ (AC P N rd y Q) Q) fr s) : AC P N rd (.seq x y) Q fr s := by
  obtain ⟨e, fr1, s1, hq, hr⟩ := h
  by_cases he : e = .normal
  · subst he
    obtain ⟨e2, fr2, s2, q2, r2⟩ := hq
    refine ⟨e2, fr2, s2, q2, fun c ⟨mus, hc⟩ => ?_⟩
    obtain ⟨a, b, rfl, ha, hb⟩ := comp_inv hc
    exact (hr a ⟨mus, ha⟩).seq (r2 b ⟨mus, hb⟩)
  · refine ⟨e, fr1, s1, ?_, fun c ⟨mus, hc⟩ => ?_⟩
    · cases e with
      | normal => exact absurd rfl he
      | _ => exact hq
    · obtain ⟨a, b, rfl, ha, hb⟩ := comp_inv hc
      exact (hr a ⟨mus, ha⟩).seqX he

theorem AC.cond {p : X} {x y : CC} {v : Bool} (hp : (p.ev fr).bind AV.bool? = some v) (h : AC P N rd (if v then x else y) Q fr s) : AC P N rd (.cond p x y) Q fr s := by
  obtain ⟨e, fr1, s1, hq, hr⟩ := h
  refine ⟨e, fr1, s1, hq, fun c ⟨mus, hc⟩ => ?_⟩
  obtain ⟨q, a, b, rfl, hp', ha, hb⟩ := comp_inv hc
  intro B k ac w r h0 h1 h2 h3
  obtain ⟨pv, hpv, hb1⟩ := bind_inv hp
  have he : ac.eval q = .bool v := (cX_ok hp' hpv fun u y e hl => h2 u y hl).sc_eq (AV.bool_sc hb1)
  refine wpIn_cond (t := v) he ?_
  cases v with
  | true => exact hr a ⟨mus, ha⟩ B k ac w r h0 h1 h2 h3
  | false => exact hr b ⟨mus, hb⟩ B k ac w r h0 h1 h2 h3

theorem AC.block {id : Nat} {x : CC} (h : AC P N rd x (BlockQ id Q) fr s) : AC P N rd (.block id x) Q fr s := by
  obtain ⟨e, fr1, s1, hq, hr⟩ := h
  rw [BlockQ_eq] at hq
  refine ⟨_, fr1, s1, hq, fun c ⟨mus, hc⟩ => ?_⟩
  obtain ⟨a, rfl, ha⟩ := comp_inv hc
  intro B k ac w r h0 h1 h2 h3
  refine wpIn_block (wpIn_mono (hr a ⟨mus, ha⟩ B k ac w r h0 h1 h2 h3) ?_)
  rintro e' a' w' ⟨rfl, hh⟩
  cases e' with
  | exit id' =>
    show if id' = id then _ else _
    by_cases e : id' = id
    · have hE : blockE id (.exit id') = .normal := if_pos e
      rw [if_pos e, hE]; exact ⟨rfl, hh⟩
    · have hE : blockE id (.exit id') = .exit id' := if_neg e
      rw [if_neg e, hE]; exact ⟨rfl, hh⟩
  | _ => exact ⟨rfl, hh⟩

/-- The rounds of a loop, as data. -/
inductive LoopTrC (P : Program) (N : Nat) (rd : Option Nat) (x : CC) (e : Exit) (fr' : Fr) (s' : List AObj) : Fr → List AObj → Prop
  | last {fr fr0 : Fr} {s : List AObj} : (∀ t y, look fr0 t = some y → look fr t = some y) → e ≠ .normal → RunsC P N rd x fr0 s e fr' s' → LoopTrC P N rd x e fr' s' fr s
  | more {fr fr0 fr1 : Fr} {s s1 : List AObj} : (∀ t y, look fr0 t = some y → look fr t = some y) → RunsC P N rd x fr0 s .normal fr1 s1 → LoopTrC P N rd x e fr' s' fr1 s1 → LoopTrC P N rd x e fr' s' fr s
theorem LoopTrC.tr {x : CC} {e : Exit} {fr' : Fr} {s' : List AObj} (h : LoopTrC P N rd x e fr' s' fr s) {c : Code} (hc : LLc P N c x) : ∃ n, LoopTr (LLc P) P N rd c e fr' s' n fr s := by
  induction h with
  | last hf he hr => exact ⟨0, .last he ((hr c hc).frame hf)⟩
  | more hf hr _ ih => obtain ⟨n, hn⟩ := ih; exact ⟨n + 1, .more ((hr c hc).frame hf) hn⟩

def Sub (fr' fr : Fr) : Prop := ∀ t x, look fr' t = some x → look fr t = some x
theorem Sub.refl (fr : Fr) : Sub fr fr := fun _ _ h => h
theorem Sub.nil (fr : Fr) : Sub [] fr := fun _ _ h => by cases h
theorem Sub.cons {fr' fr : Fr} {t : Nat} {x : AV} (h : look fr t = some x) (hs : Sub fr' fr) : Sub ((t, x) :: fr') fr := fun u y hy => by
  unfold look at hy
  split at hy
  · rename_i e; subst e; obtain rfl := Option.some.inj hy; exact h
  · exact hs u y hy

/-- Only these slots are kept in mind. -/
def restr (keep : List Nat) (fr : Fr) : Fr := keep.filterMap fun t => (look fr t).map fun x => (t, x)
theorem restr_sub (keep : List Nat) (fr : Fr) : Sub (restr keep fr) fr := by
  induction keep with
  | nil => exact Sub.nil fr
  | cons t l ih =>
    unfold restr
    rw [List.filterMap_cons]
    cases h : look fr t with
    | none => exact ih
    | some x => exact Sub.cons h ih
theorem AC.trim {keep : List Nat} {x : CC} (h : AC P N rd x Q (restr keep fr) s) : AC P N rd (.trim keep x) Q fr s :=
  let ⟨e, fr', s', q, hr⟩ := h; ⟨e, fr', s', q, fun c hc => (hr c hc).frame (restr_sub keep fr)⟩

/-- A loop: an invariant with a measure, told of some slots. -/
def LoopP (body : (Exit → Fr → List AObj → Prop) → Fr → List AObj → Prop) (Q : Exit → Fr → List AObj → Prop) (fr : Fr) (s : List AObj) : Prop :=
  ∃ (Inv : Nat → Fr → List AObj → Prop), (∃ m fr0, Sub fr0 fr ∧ Inv m fr0 s) ∧ ∀ m fr s, Inv m fr s → body (SeqQ (fun fr' s' => ∃ m' fr'', m' < m ∧ Sub fr'' fr' ∧ Inv m' fr'' s') Q) fr s

theorem AC.loop {x : CC} (Inv : Nat → Fr → List AObj → Prop) {m : Nat} {fr0 : Fr} (hs : Sub fr0 fr) (h0 : Inv m fr0 s) (h : ∀ m fr s, Inv m fr s → AC P N rd x (SeqQ (fun fr' s' => ∃ m' fr'', m' < m ∧ Sub fr'' fr' ∧ Inv m' fr'' s') Q) fr s) : AC P N rd (.loop x) Q fr s := by
  have key : ∀ m fr0 fr s, Sub fr0 fr → Inv m fr0 s → ∃ e fr' s', Q e fr' s' ∧ LoopTrC P N rd x e fr' s' fr s := by
    intro m
    induction m using Nat.strongRecOn with
    | _ m ih =>
      intro fr0 fr s hsub hi
      obtain ⟨e, fr1, s1, hq, hr⟩ := h m fr0 s hi
      by_cases he : e = .normal
      · subst he
        obtain ⟨m', fr'', hlt, hsub', hi'⟩ := hq
        obtain ⟨e2, fr2, s2, q2, t2⟩ := ih m' hlt fr'' fr1 s1 hsub' hi'
        exact ⟨e2, fr2, s2, q2, .more hsub hr t2⟩
      · refine ⟨e, fr1, s1, ?_, .last hsub he hr⟩
        cases e with
        | normal => exact absurd rfl he
        | _ => exact hq
  obtain ⟨e, fr', s', hq, ht⟩ := key m fr0 fr s hs h0
  refine ⟨e, fr', s', hq, fun c ⟨mus, hc⟩ => ?_⟩
  obtain ⟨a, rfl, ha⟩ := comp_inv hc
  obtain ⟨n, hn⟩ := ht.tr ⟨mus, ha⟩
  exact hn.runs

/-! ### Loops over functions -/

/-- A loop's record written. -/
theorem loop_upd {B : Nat} {k : Cfg} {w : World} {LL : Nat → Code → CC → Prop} (hst : St LL B k s w) {id b : Nat} {l l' : ALoop} {r r' : Loop} (hid : s[id]? = some (.loop l)) (hb : k.own[id]? = some (.blk b)) (hh : w.heap[b]? = some (.loop r)) (hI : k.I b = 0)
    (hm : Mono k w k (w.putObj b (.loop r')) → LoopOk LL k (w.putObj b (.loop r')) l' r') : Mono k w k (w.putObj b (.loop r')) ∧ Ext B k w k (w.putObj b (.loop r')) ∧ St LL B k (s.set id (.loop l')) (w.putObj b (.loop r')) := by
  have hlt := heap_lt hh
  have hbB := hst.lies id _ b hb rfl
  have hk : KeepI k.I w k.I (w.putObj b (.loop r')) := fun b' q u hq hc => ⟨hq, by
    have hne : b' ≠ b := by rintro rfl; unfold World.cell? at hc; rw [hh] at hc; cases hc
    exact (World.cell?_of_block (w := w) (World.putObj_heap_other hne)).trans hc⟩
  have hbl : Below B w (w.putObj b (.loop r')) := ⟨rfl, rfl, rfl, by simp, fun j hj => World.putObj_heap_other (by omega)⟩
  refine ⟨mono_same hk, hst.upd (k' := k) hb (.loop l') (own_set_self hb) (OwnLe.refl _) hk hbl (fun b2 hb2 => by cases hb2; exact ⟨.inl rfl, by simpa using hbB.2, hbB.1⟩)
    (fun b2 _ hne => ⟨World.putObj_heap_other (fun e => hne (by rw [e]; rfl)), rfl⟩) ⟨r', World.putObj_heap_same hlt, hm (mono_same hk), hI⟩⟩

/-- What is to hold when the function that was ranged over has ended. -/
def EndK (Q : Exit → Fr → List AObj → Prop) (fr : Fr) (i : Nat) (s' : List AObj) : Prop := match s'[i]? with
  | some (.loop l) => l.st ≠ .busy ∧ (match l.pend with
    | none => Q .normal fr (s'.set i (.loop { l with st := .exhausted }))
    | some .ret => Q .ret fr (s'.set i (.loop { l with st := .exhausted }))
    | some (.exit id) => Q (.exit id) fr (s'.set i (.loop { l with st := .exhausted })))
  | _ => False
def RdS (s : List AObj) : Option Nat → Prop
  | none => True
  | some id => ∃ l, s[id]? = some (.loop l)
/-- A loop over a function that is still to be walked. -/
def RngK (P : Program) (rd : Option Nat) (n : Nat) (f : X) (ps : List Nat) (x y : CC) (Q : Exit → Fr → List AObj → Prop) (fr : Fr) (s : List AObj) : Prop :=
  RdS s rd ∧ ∃ g fs cs, f.ev fr = some (.clo g fs cs) ∧ CallK (LLc P) P (.clo g fs cs) [.yld s.length] (s ++ [.loop ⟨.ready, none, fr, ps, n, x, y⟩]) fun _ s' => EndK Q fr s.length s'

theorem AC.rng {n : Nat} {f : X} {ps : List Nat} {x y : CC} (h : RngK P rd n f ps x y Q fr s) : AC P N rd (.rng n f ps x y) Q fr s := by
  obtain ⟨hrd, g, fs, cs, hf, d, s', hrun, hend⟩ := h
  unfold EndK at hend
  split at hend
  · rename_i l hl
    obtain ⟨hbusy, hend⟩ := hend
    obtain ⟨e, hq, he⟩ : ∃ e, Q e fr (s'.set s.length (.loop { l with st := .exhausted })) ∧ ((l.pend = none ∧ e = .normal) ∨ (l.pend = some .ret ∧ e = .ret) ∨ ∃ id, l.pend = some (.exit id) ∧ e = .exit id) := by
      split at hend
      · rename_i hp; exact ⟨_, hend, .inl ⟨hp, rfl⟩⟩
      · rename_i hp; exact ⟨_, hend, .inr (.inl ⟨hp, rfl⟩)⟩
      · rename_i id hp; exact ⟨_, hend, .inr (.inr ⟨id, hp, rfl⟩)⟩
    refine ⟨e, fr, _, hq, ?_⟩
    rintro c ⟨mus, hc⟩
    obtain ⟨rfl, gop, qs, ca, cb, rfl, hg, hqs, ha, hb, hall⟩ := comp_inv hc
    intro B k a w r h0 h1 h2 h3
    refine wpIn_rangeFunc fun fnn _ => ?_
    rw [FW_round]
    -- the record is laid
    have laid : ∃ (lb : Nat) (ms : List Nat) (w1 : World) (rec : Loop), (Instr.enterLoop fnn a.tmps qs ca cb r).run P w = .ok (lb, ms.map mark) w1 ∧ Below w.heap.size w w1 ∧ w1.heap[lb]? = some (.loop rec) ∧ w.heap.size ≤ lb ∧ rec.state = .ready ∧ rec.pending = none ∧ rec.tmps = a.tmps ∧ rec.params = qs ∧ rec.assign = ca ∧ rec.body = cb ∧
        ms.Nodup ∧ ∀ m ∈ ms, w.heap.size ≤ m ∧ m ≠ lb ∧ w1.heap[m]? = some (.deferred (some [])) := by
      cases r with
      | none =>
        have hr := run_enterLoop_outer (P := P) (w := w) fnn a.tmps qs ca cb
        refine ⟨w.heap.size + 1, [w.heap.size], _, _, hr, ((Below.refl _ _).alloc (Nat.le_refl _) _).alloc (by simp) _, by have := World.alloc_heap_new (w.alloc (.deferred (some []))) (.loop { state := .ready, pending := none, fn := fnn, tmps := a.tmps, params := qs, assign := ca, body := cb, defers := w.heap.size }); simpa using this, by omega, rfl, rfl, rfl, rfl, rfl, rfl, by simp, fun m hm => ?_⟩
        obtain rfl : m = w.heap.size := by simpa using hm
        refine ⟨Nat.le_refl _, by omega, ?_⟩
        rw [Below.heap_alloc _ _ _ (by simp)]
        exact World.alloc_heap_new w _
      | some l0 =>
        cases rd with
        | none => exact h0.elim
        | some id =>
          obtain ⟨al, hal⟩ := hrd
          obtain ⟨b, r0, g1, g2, _⟩ := h3.loop hal
          have : k.own[id]? = some (.blk l0) := h0
          rw [this] at g1; cases g1
          exact ⟨w.heap.size, [], _, _, run_enterLoop_inner g2 fnn a.tmps qs ca cb, (Below.refl _ _).alloc (Nat.le_refl _) _, World.alloc_heap_new w _, Nat.le_refl _, rfl, rfl, rfl, rfl, rfl, rfl, List.nodup_nil, fun m hm => by cases hm⟩
    obtain ⟨lb, ms, w1, rec, hent, hb1, hlb, hge, r1, r2, r3, r4, r5, r6, hnd, hms⟩ := laid
    have hltb := heap_lt hlb
    have hI : ∀ b, b < w.heap.size → updI k.I lb 0 b = k.I b := fun b hb => updI_ne _ _ (by omega)
    have hext : Ext B k w ⟨updI k.I lb 0, k.own ++ [.blk lb]⟩ w1 := Ext.new h3.base hb1 hI _ fun b hb => by cases hb; exact hge
    obtain ⟨he1, hs1⟩ := h3.new hb1 hI (.blk lb) (.loop ⟨.ready, none, fr, ps, n, x, y⟩) (fun b hb => by cases hb; exact ⟨hge, hltb⟩)
      ⟨rec, hlb, ⟨r1, by rw [r2]; rfl, by rw [r3]; exact h1, fun t z hz => by rw [r3]; exact (h2 t z hz).mono hext.mono, by rw [r4]; exact hqs, by rw [r5]; exact ⟨mus, ha⟩, by rw [r6]; exact ⟨mus, hb⟩⟩, updI_self ..⟩
    -- the call
    have hgv : RA k w (a.eval gop) (.clo g fs cs) := cX_ok hg hf fun u y e hl => h2 u y hl
    obtain ⟨us, vs, heval, hu1, hu2⟩ := hgv.clo_inv
    have hown1 : (k.own ++ [.blk lb])[s.length]? = some (.blk lb) := by rw [← h3.len]; simp
    have hyv : RVs ⟨updI k.I lb 0, k.own ++ [.blk lb]⟩ w1 [Value.func (.yield lb) #[] #[]] [.yld s.length] := ⟨rfl, fun i u c hu hc => by
      match i with
      | 0 => simp at hu hc; subst hu; subst hc; exact .yld hown1
      | i + 1 => simp at hu⟩
    have hcalls := hrun.calls B _ w1 (us ++ [Value.func (.yield lb) #[] #[]] ++ vs) hs1 (((hu1.mono he1.mono).append hyv).append (hu2.mono he1.mono))
    have hdep : (FW r).depth.isSome = true → 1 ≤ 0 := fun hh => by rw [FW_depth] at hh; cases hh
    have hres : (resolve a.eval (rangeCall gop lb) 0).run P w1 = .ok { target := .fn (.func g) vs.toArray, args := us.toArray ++ #[Value.func (.yield lb) #[] #[]] } w1 := by
      simp only [resolve, rangeCall]
      rw [heval]
      simp [Deferred.ofValue, Act.eval, Sem.run_pure, Sem.run_bind, Result.andThen_ok]
    have hinv : (invoke (.fn (.func g) vs.toArray) (us.toArray ++ #[Value.func (.yield lb) #[] #[]])).run P w1 = .ok (.enter g (us ++ [Value.func (.yield lb) #[] #[]] ++ vs).toArray) w1 := by
      have : us.toArray ++ #[Value.func (.yield lb) #[] #[]] ++ vs.toArray = (us ++ [Value.func (.yield lb) #[] #[]] ++ vs).toArray := by simp
      simp only [invoke]
      rw [this]
      exact hrun.enters _ w1
    refine ⟨lb, ms.map mark, w1, { target := .fn (.func g) vs.toArray, args := us.toArray ++ #[Value.func (.yield lb) #[] #[]] }, w1, g, (us ++ [Value.func (.yield lb) #[] #[]] ++ vs).toArray, w1, hent, hres, fun f' _ => FW_fn r f', hinv, hdep, callsIn_FW (Calls.mono hcalls ?_)⟩
    · rintro e' w3 ⟨v, k2, rfl, hv, he2, hs2⟩
      obtain ⟨b, r3', g1, g2, g3, gI⟩ := hs2.loop hl
      have hbb : b = lb := by
        have := OwnLe.blk' he2.mono hown1
        rw [this] at g1; cases g1; rfl
      subst hbb
      obtain ⟨q1, q2, q3, q4, q5, q6, q7⟩ := g3
      obtain ⟨m1, m2, m3⟩ := loop_upd hs2 (l' := { l with st := .exhausted }) (r' := { r3' with state := .exhausted }) hl g1 g2 gI fun hm => ⟨rfl, q2, q3, fun t z hz => (q4 t z hz).mono hm, q5, q6, q7⟩
      have hendl := run_endLoop (P := P) g2 (by rw [q1]; exact hbusy)
      have hmarks : Marks w (w3.putObj b (.loop { r3' with state := .exhausted })) k2 a.defers (ms.map mark ++ a.defers) := by
        refine ⟨ms, rfl, hnd, fun m hm => ?_⟩
        obtain ⟨p1, p2, p3⟩ := hms m hm
        have hun : Unowned ⟨updI k.I b 0, k.own ++ [.blk b]⟩ m := fun id o ho hob => by
          rcases getElem?_snoc ho with ho2 | ⟨_, rfl⟩
          · have := (h3.lies id o m ho2 hob).2; omega
          · cases hob; exact p2 rfl
        have hltm := heap_lt p3
        refine ⟨p1, ?_, he2.unowned hltm hun⟩
        rw [World.putObj_heap_other p2, he2.rest m hltm hun]
        exact p3
      have hfin : ∃ k', ({ a with defers := ms.map mark ++ a.defers } : Act).tmps.size = n ∧ Marks w (w3.putObj b (.loop { r3' with state := .exhausted })) k' a.defers (ms.map mark ++ a.defers) ∧ Ext B k w k' (w3.putObj b (.loop { r3' with state := .exhausted })) ∧ FR k' (w3.putObj b (.loop { r3' with state := .exhausted })) { a with defers := ms.map mark ++ a.defers } fr ∧ St (LLc P) B k' (s'.set s.length (.loop { l with st := .exhausted })) (w3.putObj b (.loop { r3' with state := .exhausted })) :=
        ⟨k2, h1, hmarks, (he1.trans he2).trans m2, fun t z hz => (((h2 t z hz).mono he1.mono).mono he2.mono).mono m1, m3⟩
      refine ⟨r3'.pending, _, hendl, ?_⟩
      rcases he with ⟨hp, rfl⟩ | ⟨hp, rfl⟩ | ⟨id, hp, rfl⟩
      · rw [q2, hp] at hfin ⊢; exact ⟨rfl, hfin⟩
      · rw [q2, hp] at hfin ⊢; exact wpIn_ret ⟨rfl, hfin⟩
      · rw [q2, hp] at hfin ⊢; exact wpIn_exit ⟨rfl, hfin⟩
  · exact hend.elim
end
end Go.Bb
