/-
  Part GAH of this claim's proof. Joined by merge.py from the texts of wip/tpl.
-/
import Derived.Test.YtclholnhkhjjaaaGreatBbQ
import Derived.TacticsIn
import Derived.RangeFuncNested
set_option linter.unusedVariables false
set_option linter.unusedSimpArgs false
set_option linter.unnecessarySimpa false
set_option linter.unusedVariables false
namespace Go.Bb
open Go Go.RowKit Go.Ab Go.Proofs.Lg
section
variable {P : Program} {N : Nat} {rd : Option Nat}
theorem wpC_ok : ∀ {cs : List CO} {fr : Fr} {s : List AObj} {K : Fr → List AObj → List Nat → Prop} {acc : List Nat}, wpC P cs K acc fr s →
   ∃ fl fr' s', K fr' s' (acc.reverse ++ fl) ∧ ∀ (mus : List Nat) (ops : Array Oper) (l : List Oper), compL P mus ops l = some cs → AOps (LLc P) P ops l fr s fl fr' s'
 | [], fr, s, K, acc, hw => ⟨[], fr, s, by simpa [wpC] using hw, fun mus ops l hl => by obtain rfl := compL_nil hl; exact .nil fr s⟩
 | c :: cs, fr, s, K, acc, hw => by
   unfold wpC at hw
   cases hg : gdC fr c.g with
   | none => rw [hg] at hw; exact hw.elim
   | some b =>
     rw [hg] at hw
     obtain ⟨w1, w2⟩ := hw
     cases b with
     | false =>
       obtain ⟨fl, fr', s', hk, ha⟩ := wpC_ok (w1 rfl)
       refine ⟨0 :: fl, fr', s', by simpa using hk, fun mus ops l hl => ?_⟩
       obtain ⟨o, l', rfl, h1, h2⟩ := compL_cons hl
       obtain ⟨hci, hdst⟩ := compO_inv h1
       have ha' := ha mus ops l' h2
       rw [hdst] at ha'
       exact .skip o l' fr s fl fr' s' (by rw [← gdC_gd h1]; exact hg) ha'
     | true =>
       have w3 := w2 rfl
       split at w3
       · rename_i cl xs hcall
         split at w3
         · rename_i cv vs hcv hvs
           have op : ∀ (mus : List Nat) (o : Oper), compOp P mus o = some c.ci → ∀ {s s' : List AObj} {d : AV}, CalRuns (LLc P) P cv vs s d s' → AOp (LLc P) P o fr s d s' := fun mus o hci s s' d hr => by
             rw [hcall] at hci
             obtain ⟨p, ps, ts, ho, hx, hp⟩ := compOp_call hci
             exact ok_call ho (fun k w a hops => cal_fn hcv hp hops) hx hvs hr
           rcases w3 with ⟨d, hr, hk⟩ | ⟨d, s1, hr, hk⟩ | ⟨d, hr, hk⟩ | ⟨d, xs', hr, hk⟩
           · obtain ⟨fl, fr', s', hk', ha⟩ := wpC_ok hk
             refine ⟨0 :: fl, fr', s', by simpa using hk', fun mus ops l hl => ?_⟩
             obtain ⟨o, l', rfl, h1, h2⟩ := compL_cons hl
             obtain ⟨hci, hdst⟩ := compO_inv h1
             replace hci := hci.resolve_right fun h => by rw [hcall] at h; cases h.1
             have ha' := ha mus ops l' h2
             rw [hdst] at ha'
             exact .free o l' fr s _ fl fr' s' (by rw [← gdC_gd h1]; exact hg) (fun s2 => op mus o hci (hr s2)) ha'
           · obtain ⟨fl, fr', s', hk', ha⟩ := wpC_ok hk
             refine ⟨2 :: fl, fr', s', by simpa using hk', fun mus ops l hl => ?_⟩
             obtain ⟨o, l', rfl, h1, h2⟩ := compL_cons hl
             obtain ⟨hci, hdst⟩ := compO_inv h1
             replace hci := hci.resolve_right fun h => by rw [hcall] at h; cases h.1
             have ha' := ha mus ops l' h2
             rw [hdst] at ha'
             exact .eff o l' fr s d s1 fl fr' s' (by rw [← gdC_gd h1]; exact hg) (op mus o hci hr) ha'
           · obtain ⟨fl, fr', s', hk', ha⟩ := wpC_ok hk
             refine ⟨1 :: fl, fr', s', by simpa using hk', fun mus ops l hl => ?_⟩
             obtain ⟨o, l', rfl, h1, h2⟩ := compL_cons hl
             obtain ⟨hci, hdst⟩ := compO_inv h1
             replace hci := hci.resolve_right fun h => by rw [hcall] at h; cases h.1
             have ha' := ha mus ops l' h2
             rw [hdst] at ha'
             exact .reads o l' fr s d fl fr' s' (by rw [← gdC_gd h1]; exact hg) (fun s2 hag => op mus o hci (hr s2 hag)) ha'
           · obtain ⟨fl, fr', s', hk', ha⟩ := wpC_ok hk
             refine ⟨3 :: fl, fr', s', by simpa using hk', fun mus ops l hl => ?_⟩
             obtain ⟨o, l', rfl, h1, h2⟩ := compL_cons hl
             obtain ⟨hci, hdst⟩ := compO_inv h1
             replace hci := hci.resolve_right fun h => by rw [hcall] at h; cases h.1
             have ha' := ha mus ops l' h2
             rw [hdst] at ha'
             exact .make o l' fr s d xs' fl fr' s' (by rw [← gdC_gd h1]; exact hg) (op mus o hci hr) ha'
         · exact w3.elim
       · split at w3
         · rename_i d s1 hsem
           obtain ⟨fl, fr', s', hk, ha⟩ := wpC_ok w3
           have ht : c.ci.touch fr = 0 ∨ c.ci.touch fr = 1 ∨ c.ci.touch fr = 2 ∨ c.ci.touch fr = 3 := by
             rcases Nat.lt_or_ge (c.ci.touch fr) 2 with h | h
             · omega
             · have : c.ci.touch fr ≤ 3 := by
                 generalize c.ci = ci
                 cases ci <;> simp only [CI.touch] <;> first | exact appT_le _ | (split <;> omega) | omega
               omega
           refine ⟨c.ci.mark fr :: fl, fr', s', by simpa using hk, fun mus ops l hl => ?_⟩
           obtain ⟨o, l', rfl, h1, h2⟩ := compL_cons hl
           obtain ⟨hci, hdst⟩ := compO_inv h1
           replace hci := hci.resolve_right fun h => by rw [h.1] at hsem; cases hsem
           have ha' := ha mus ops l' h2
           rw [hdst] at ha'
           have hg' : gd ops fr o = some true := by rw [← gdC_gd h1]; exact hg
           rcases ht with ht | ht | ht | ht
           · have := sem_read hsem (by omega)
             subst this
             have hm : c.ci.mark fr = 0 := by unfold CI.mark markOf; rw [ht]; rfl
             rw [hm]
             refine .free o l' fr _ d fl fr' s' hg' (fun s2 => compOp_ok hci (sem_local hsem (by omega) fun id hid => ?_)) ha'
             have hu := touch_use (fr := fr) (ci := c.ci) (by omega)
             rw [hid, ht] at hu; cases hu
           · have := sem_read hsem (by omega)
             subst this
             have hu := touch_use (fr := fr) (ci := c.ci) (by omega)
             cases hus : c.ci.use fr with
             | none => rw [hus, ht] at hu; cases hu
             | some id =>
               have hm : c.ci.mark fr = 4 + 2 * id := by unfold CI.mark markOf; rw [ht, hus]; rfl
               rw [hm]
               exact .readsAt id o l' fr _ d fl fr' s' hg' (op_readsAt hci hsem ht hus) ha'
           · cases hws : c.ci.wr fr with
             | none =>
               have hm : c.ci.mark fr = 2 := by unfold CI.mark markOf; rw [ht, hws]; rfl
               rw [hm]; exact .eff o l' fr s d s1 fl fr' s' hg' (compOp_ok hci hsem) ha'
             | some id =>
               have hm : c.ci.mark fr = 5 + 2 * id := by unfold CI.mark markOf; rw [ht, hws]; rfl
               rw [hm]; exact .effAt id o l' fr s d s1 fl fr' s' hg' (compOp_ok hci hsem) (sem_set hsem hws) ha'
           · have hmk : ∃ x : List AObj, s1 = s ++ x := by
               generalize c.ci = ci at hsem ht
               cases ci with
               | box x =>
                 obtain ⟨cs2, _, he⟩ := map_inv hsem
                 exact ⟨_, ((Prod.mk.inj he).2).symm⟩
               | bsl mu e sz n z ps =>
                 obtain ⟨cs2, _, h1⟩ := bind_inv (show ((fillA fr z ps).bind fun cs => semBsl s mu e sz n cs) = some (d, s1) from hsem)
                 unfold semBsl at h1
                 split at h1
                 · split at h1
                   · cases h1; exact ⟨_, rfl⟩
                   · obtain ⟨ds, _, he⟩ := map_inv h1; exact ⟨_, ((Prod.mk.inj he).2).symm⟩
                 · cases h1
               | mks mu e b z l c =>
                 obtain ⟨n, _, h1⟩ := bind_inv (show (((l.ev fr).bind AV.int?).bind fun n => ((c.ev fr).bind AV.int?).bind fun m => semMks s mu e b z n m) = some (d, s1) from hsem)
                 obtain ⟨m, _, h2⟩ := bind_inv h1
                 unfold semMks at h2
                 split at h2
                 · split at h2
                   · cases h2; exact ⟨_, rfl⟩
                   · obtain ⟨ds, _, he⟩ := map_inv h2; exact ⟨_, ((Prod.mk.inj he).2).symm⟩
                 · cases h2
               | mkm ag => cases hsem; exact ⟨_, rfl⟩
               | app mu e sz b x y =>
                 obtain ⟨v, hv, h1⟩ := bind_inv (show ((x.ev fr).bind fun v => (y.ev fr).bind fun u => semApp s mu e sz b u v) = some (d, s1) from hsem)
                 obtain ⟨u, _, h2⟩ := bind_inv h1
                 have ht' : appT (x.ev fr) = 3 := ht
                 rw [hv] at ht'
                 cases v with
                 | nil n =>
                   simp only [semApp] at h2
                   split at h2
                   · obtain ⟨us, _, h3⟩ := bind_inv h2
                     split at h3
                     · cases h3; exact ⟨_, rfl⟩
                     · cases h3
                   · obtain ⟨news, _, h3⟩ := bind_inv h2
                     split at h3
                     · cases h3; exact ⟨[], (List.append_nil _).symm⟩
                     · split at h3
                       · cases h3; exact ⟨_, rfl⟩
                       · cases h3
                 | emp n =>
                   simp only [semApp] at h2
                   split at h2
                   · cases h2
                   · obtain ⟨news, _, h3⟩ := bind_inv h2
                     split at h3
                     · cases h3; exact ⟨[], (List.append_nil _).symm⟩
                     · split at h3
                       · cases h3; exact ⟨_, rfl⟩
                       · cases h3
                 | _ => exact absurd ht' (by simp [appT])
               | ld n x => simp only [CI.touch] at ht; split at ht <;> cases ht
               | iad sz x i => simp only [CI.touch] at ht; split at ht <;> cases ht
               | len kd x => simp only [CI.touch] at ht; split at ht <;> cases ht
               | lkp ag ks z ok m k => simp only [CI.touch] at ht; split at ht <;> cases ht
               | _ => simp [CI.touch] at ht
             obtain ⟨x, hx⟩ := hmk
             subst hx
             have hm : c.ci.mark fr = 3 := by unfold CI.mark markOf; rw [ht]; rfl
             rw [hm]; exact .make o l' fr s d x fl fr' s' hg' (compOp_ok hci hsem) ha'
         · exact w3.elim
def ordF (bf : List Nat) (fl : List Nat) : Bool :=
 (List.range fl.length).all fun j => fl.getD j 0 == 0 || (List.range j).all fun i => !conf (fl.getD i 0) (fl.getD j 0) || (bf.getD j 0).testBit i
theorem ordOk_parts {ops : Array Oper} {fl : List Nat} (h0 : ordB ops [] = true) (hlen : fl.length = ops.size) (h : ordF (Region.before ops).toList fl = true) : OrdOk ops (anc (Region.before ops)) (fun i => fl.getD i 0) := by
 have h1 := ordOk_of h0
 refine ⟨h1.back, h1.up, h1.names, fun i j hij hj hf => ?_⟩
 unfold ordF at h
 simp only [List.all_eq_true, List.mem_range] at h
 have h2 := h j (by omega)
 simp only [Bool.or_eq_true, List.all_eq_true, List.mem_range, beq_iff_eq] at h2
 rcases h2 with h2 | h2
 · exfalso
   have hf' : conf (fl.getD i 0) (fl.getD j 0) = true := hf
   rw [h2] at hf'
   simp [conf, isE, isW, isRd] at hf'
 · rcases h2 i hij with h3 | h3
   · have hf' : conf (fl.getD i 0) (fl.getD j 0) = true := hf
     rw [hf'] at h3; cases h3
   · unfold anc
     have : (Region.before ops).toList.getD j 0 = (Region.before ops).getD j 0 := by simp [List.getD_eq_getElem?_getD, Array.getD_eq_getD_getElem?]
     rw [← this]; exact h3
def coarse (x : Nat) : Nat := if x < 4 then x else if x % 2 = 0 then 1 else 2
theorem coarse_rd (b : Nat) : coarse (4 + 2 * b) = 1 := by unfold coarse; rw [if_neg (by omega), if_pos (by omega)]
theorem coarse_wr (b : Nat) : coarse (5 + 2 * b) = 2 := by unfold coarse; rw [if_neg (by omega), if_neg (by omega)]
theorem conf_coarse {a b : Nat} (h : conf a b = true) : conf (coarse a) (coarse b) = true := by
 have cs : ∀ x, (x < 4 ∧ coarse x = x) ∨ (∃ c, x = 4 + 2 * c) ∨ ∃ c, x = 5 + 2 * c := fun x => by
   by_cases h : x < 4
   · exact .inl ⟨h, if_pos h⟩
   · by_cases h2 : x % 2 = 0
     · exact .inr (.inl ⟨(x - 4) / 2, by omega⟩)
     · exact .inr (.inr ⟨(x - 5) / 2, by omega⟩)
 have small : ∀ x, x < 4 → x = 0 ∨ x = 1 ∨ x = 2 ∨ x = 3 := fun x h => by omega
 rcases cs a with ⟨ha, ea⟩ | ⟨c, ea⟩ | ⟨c, ea⟩ <;> rcases cs b with ⟨hb, eb⟩ | ⟨e, eb⟩ | ⟨e, eb⟩
 · rw [ea, eb]; exact h
 · subst eb; rw [ea, coarse_rd]
   rcases small a ha with rfl | rfl | rfl | rfl <;> simp [conf, isE, isW, isRd] at h ⊢ <;> omega
 · subst eb; rw [ea, coarse_wr]
   rcases small a ha with rfl | rfl | rfl | rfl <;> simp [conf, isE, isW, isRd] at h ⊢ <;> omega
 · subst ea; rw [eb, coarse_rd]
   rcases small b hb with rfl | rfl | rfl | rfl <;> simp [conf, isE, isW, isRd] at h ⊢ <;> omega
 · subst ea; subst eb; exfalso
   unfold conf isE isW isRd at h
   simp at h; omega
 · subst ea; subst eb; rw [coarse_rd, coarse_wr]; rfl
 · subst ea; rw [eb, coarse_wr]
   rcases small b hb with rfl | rfl | rfl | rfl <;> simp [conf, isE, isW, isRd] at h ⊢ <;> omega
 · subst ea; subst eb; rw [coarse_rd, coarse_wr]; rfl
 · subst ea; subst eb; rw [coarse_wr, coarse_wr]; rfl
theorem ordF_coarse {bf fl : List Nat} (h : ordF bf (fl.map coarse) = true) : ordF bf fl = true := by
 unfold ordF at h ⊢
 rw [List.length_map] at h
 have e : ∀ i, (fl.map coarse).getD i 0 = coarse (fl.getD i 0) := fun i => by
   simp only [List.getD_eq_getElem?_getD, List.getElem?_map]
   cases fl[i]? <;> rfl
 simp only [List.all_eq_true, List.mem_range, Bool.or_eq_true, beq_iff_eq, Bool.not_eq_true', e] at h ⊢
 intro j hj
 rcases h j hj with h1 | h1
 · left
   unfold coarse at h1
   split at h1
   · exact h1
   · split at h1 <;> cases h1
 · refine .inr fun i hi => ?_
   rcases h1 i hi with h2 | h2
   · left
     cases hc : conf (fl.getD i 0) (fl.getD j 0) with
     | false => rfl
     | true => have := conf_coarse hc; rw [h2] at this; cases this
   · exact .inr h2
theorem wpList_aops {LL : Nat → Code → CC → Prop} {ops : Array Oper} {B : Nat} {D : List Deferred} {r : Option Nat} {l : List Oper} {fr : Fr} {s : List AObj} {fl : List Nat} {fr' : Fr} {s' : List AObj} (h : AOps LL P ops l fr s fl fr' s') {Q : Exit → Fr → List AObj → Prop} (hQ : Q .normal fr' s')
   (hN : ∀ o ∈ l, ∀ d, o.dst = some d → d < N) (hnd : ∀ o ∈ l, notDefer o = true) {k0 : Cfg} {w0 : World} : ∀ (k : Cfg) (a : Act) (w : World), a.tmps.size = N → a.defers = D → FR k w a fr → St LL B k s w → Ext B k0 w0 k w →
   wpListIn (FW r) 0 P ops (Post LL B N D k0 w0 Q) l a w := by
 have step : ∀ {o : Oper} {rest : List Oper} {fr : Fr} {s : List AObj} {d : AV} {s1 : List AObj} {k : Cfg} {a : Act} {w : World}, gd ops fr o = some true → AOp LL P o fr s d s1 → notDefer o = true → (∀ d, o.dst = some d → d < N) →
     (∀ (k : Cfg) (a : Act) (w : World), a.tmps.size = N → a.defers = D → FR k w a (putF fr o.dst d) → St LL B k s1 w → Ext B k0 w0 k w → wpListIn (FW r) 0 P ops (Post LL B N D k0 w0 Q) rest a w) →
     a.tmps.size = N → a.defers = D → FR k w a fr → St LL B k s w → Ext B k0 w0 k w → wpListIn (FW r) 0 P ops (Post LL B N D k0 w0 Q) (o :: rest) a w := fun hg ho hnd hN ih ha hd hf hs he => by
   refine wpListIn_step fun K hK => ?_
   rw [if_pos (gd_wanted hg fun t x _ hx => hf t x hx)]
   refine Oper.wpIn_mono ?_ (ho B _ _ _ (hf.ops _) hs hnd r _)
   rintro _ w' ⟨v, rfl, k', hv, he', hs'⟩
   exact hK _ _ (ih k' _ w' (by rw [put_size, ha]) (by rw [put_defers', hd]) ((hf.mono he'.mono).put hv (by rw [ha]; exact hN)) hs' (he.trans he'))
 induction h with
 | nil fr s => exact fun k a w ha hd hf hs he => ⟨fr, s, k, hQ, ha, hd, he, hf, hs⟩
 | skip o rest fr s fl fr' s' hg _ ih =>
   intro k a w ha hd hf hs he
   refine wpListIn_step fun K hK => ?_
   rw [if_neg (by rw [gd_wanted hg fun t x _ hx => hf t x hx]; simp)]
   exact ⟨fun f _ => FW_fn r f, hK _ _ (ih hQ (fun o ho => hN o (by simp [ho])) (fun o ho => hnd o (by simp [ho])) k _ w (by rw [put_size, ha]) (by rw [put_defers', hd]) (hf.put RA.undf (by rw [ha]; exact hN o (by simp))) hs he)⟩
 | free o rest fr s d fl fr' s' hg ho _ ih =>
   intro k a w ha hd hf hs he
   exact step hg (ho s) (hnd o (by simp)) (hN o (by simp)) (ih hQ (fun o ho => hN o (by simp [ho])) (fun o ho => hnd o (by simp [ho]))) ha hd hf hs he
 | reads o rest fr s d fl fr' s' hg ho _ ih =>
   intro k a w ha hd hf hs he
   exact step hg (ho s (Agrees.refl s)) (hnd o (by simp)) (hN o (by simp)) (ih hQ (fun o ho => hN o (by simp [ho])) (fun o ho => hnd o (by simp [ho]))) ha hd hf hs he
 | readsAt b o rest fr s d fl fr' s' hg ho _ ih =>
   intro k a w ha hd hf hs he
   exact step hg (ho s (AgreesAt.refl b s)) (hnd o (by simp)) (hN o (by simp)) (ih hQ (fun o ho => hN o (by simp [ho])) (fun o ho => hnd o (by simp [ho]))) ha hd hf hs he
 | effAt b o rest fr s d s1 fl fr' s' hg ho _ _ ih =>
   intro k a w ha hd hf hs he
   exact step hg ho (hnd o (by simp)) (hN o (by simp)) (ih hQ (fun o ho => hN o (by simp [ho])) (fun o ho => hnd o (by simp [ho]))) ha hd hf hs he
 | make o rest fr s d x fl fr' s' hg ho _ ih =>
   intro k a w ha hd hf hs he
   exact step hg ho (hnd o (by simp)) (hN o (by simp)) (ih hQ (fun o ho => hN o (by simp [ho])) (fun o ho => hnd o (by simp [ho]))) ha hd hf hs he
 | eff o rest fr s d s1 fl fr' s' hg ho _ ih =>
   intro k a w ha hd hf hs he
   exact step hg ho (hnd o (by simp)) (hN o (by simp)) (ih hQ (fun o ho => hN o (by simp [ho])) (fun o ho => hnd o (by simp [ho]))) ha hd hf hs he
def OpsQ (dr : Bool) (bf : List Nat) (Q : Exit → Fr → List AObj → Prop) (fr : Fr) (s : List AObj) (fl : List Nat) : Prop := (dr = true → ordF bf fl = true) ∧ Q .normal fr s
theorem compOp_nd {mus : List Nat} {o : Oper} {ci : CI} (h : compOp P mus o = some ci) : notDefer o = true := by
 unfold notDefer
 split
 · rename_i c ho; unfold compOp at h; rw [ho] at h; cases h
 · rfl
theorem compL_nd {mus : List Nat} {ops : Array Oper} : ∀ {l : List Oper} {cs : List CO}, compL P mus ops l = some cs → ∀ o ∈ l, notDefer o = true
 | [], _, _, o, ho => by cases ho
 | o' :: l, cs, h, o, ho => by
   unfold compL at h
   split at h
   · rename_i c cs' h1 h2
     rcases List.mem_cons.1 ho with rfl | ho
     · rcases (compO_inv h1).1 with h3 | h3
       · exact compOp_nd h3
       · exact h3.2
     · exact compL_nd h2 o ho
   · cases h
theorem AC.ops {dr : Bool} {bf : List Nat} {cs : List CO} {Q : Exit → Fr → List AObj → Prop} {fr : Fr} {s : List AObj} (h : wpC P cs (OpsQ dr bf Q) [] fr s) : AC P N rd (.ops dr bf cs) Q fr s := by
 obtain ⟨fl, fr', s', hk, ha⟩ := wpC_ok h
 rw [List.reverse_nil, List.nil_append] at hk
 obtain ⟨hor, hQ⟩ := hk
 refine ⟨.normal, fr', s', hQ, ?_⟩
 rintro c ⟨mus, hc⟩
 replace hc : comp P mus N c = some (.ops dr bf cs) := hc
 cases c with
 | region id ops dr' =>
   unfold comp at hc
   split at hc
   · rename_i hcond
     obtain ⟨l, hl, he⟩ := map_inv hc
     injection he with e1 e2 e3
     subst e1; subst e3
     have hA := ha mus ops ops.toList hl
     have hnd : ∀ o ∈ ops, notDefer o = true := fun o ho => compL_nd hl o (by simpa using ho)
     simp only [Bool.and_eq_true, Bool.or_eq_true, Bool.not_eq_true'] at hcond
     have hN' : ∀ o ∈ ops, ∀ d, o.dst = some d → d < N := fun o ho d hdst => by
       have := Array.all_eq_true_iff_forall_mem.1 hcond.1 o ho
       simpa [hdst] using this
     intro B k a w r h0 h1 h2 h3
     have fin : ∀ (e : Exit) (a' : Act) (w' : World), Post (LLc P) B N a.defers k w (fun e fr s => e = .normal ∧ fr = fr' ∧ s = s') e a' w' → Ends (LLc P) N B k a.defers w .normal fr' s' e a' w' := by
       rintro e a' w' ⟨_, _, k', ⟨rfl, rfl, rfl⟩, q1, q2, q3, q4, q5⟩
       exact ⟨rfl, k', q1, Marks.same q2, q3, q4, q5⟩
     cases dr' with
     | false => exact wpIn_mono (wpIn_region_list (wpList_aops (Q := fun e fr s => e = .normal ∧ fr = fr' ∧ s = s') hA ⟨rfl, rfl, rfl⟩ (fun o ho => hN' o (by simpa using ho)) (fun o ho => hnd o (by simpa using ho)) k a w h1 rfl h2 h3 (Ext.refl B k w))) fin
     | true =>
       obtain ⟨hm, ho⟩ := hcond.2.resolve_left (by simp)
       simp only [if_true] at e2
       subst e2
       refine wpIn_mono (wpIn_region_any hm ?_) fin
       obtain ⟨frs, ss, ds, wt, t1, t2, t3, t4, t5, t6, t7⟩ := txt_of hA
       have hget : ∀ (i : Nat) (o : Oper), ops[i]? = some o → ops.toList[i]? = some o := fun i o ho => by simpa using ho
       have hT : Txt (LLc P) P ops frs ss ds wt (fun i => fl.getD i 0) := by
         have at' : ∀ (i : Nat) (hi : i < ops.size), ops.toList[i]? = some ops[i] := fun i hi => hget i _ (Array.getElem?_eq_getElem hi)
         exact {
           guard := fun i o ho => (t6 i o (hget i o ho)).1
           next := fun i o ho => (t6 i o (hget i o ho)).2.1
           skip := fun i o ho => (t6 i o (hget i o ho)).2.2.1
           free := fun i o ho => (t6 i o (hget i o ho)).2.2.2.1
           step := fun i o ho => (t6 i o (hget i o ho)).2.2.2.2.1
           reads := fun i o ho => (t6 i o (hget i o ho)).2.2.2.2.2.2.1
           readsAt := fun b i o ho => (t6 i o (hget i o ho)).2.2.2.2.2.2.2.2.1 b
           make := fun i hi hh => (t6 i _ (at' i hi)).2.2.2.2.2.2.2.1 hh
           setAt := fun b i hi hh => (t6 i _ (at' i hi)).2.2.2.2.2.2.2.2.2 b hh
           still := fun i hi hh => (t6 i _ (at' i hi)).2.2.2.2.2.1 hh
           off := t7 }
       subst t1; subst t2; subst t3; subst t4
       have hz : (Array.replicate ops.size false).size = ops.size := by simp
       have hno : ∀ i, (Array.replicate ops.size false).getD i false = false := fun i => by
         rw [Array.getD_eq_getD_getElem?, Array.getElem?_replicate]; split <;> rfl
       refine region_any hT (ordOk_parts ho (by simpa using t5) (hor rfl)) hN' hnd (Q := fun e fr s => e = .normal ∧ fr = _ ∧ s = _) ⟨rfl, by simp, by simp⟩ ops.size (Array.replicate ops.size false) (List.range ops.size) k a _ (by simp) (fun i hi _ => by simpa using hi) ?_
       refine ⟨hz, fun j hj => (by rw [hno] at hj; cases hj), h1, rfl, Ext.drew B k w, fun t x hx => ?_, 0, by omega, fun i hi => by omega, fun i _ _ _ => hno i, h3.drew⟩
       refine (FR.mono (Ext.drew B k w).mono h2) t x ?_
       rw [← hx, valS_drop (ops := ops) ds (frs 0) _ t 0 ops.size (by omega) fun i _ _ _ => hno i]
       rfl
   · cases hc
 | seq a b => unfold comp at hc; split at hc <;> cases hc
 | cond c a b => unfold comp at hc; split at hc <;> cases hc
 | block id c => unfold comp at hc; obtain ⟨_, _, he⟩ := map_inv hc; cases he
 | loop c => unfold comp at hc; obtain ⟨_, _, he⟩ := map_inv hc; cases he
 | _ => cases hc
end
end Go.Bb

set_option linter.unusedVariables false
namespace Go.Bb
open Go Go.RowKit Go.Ab Go.Proofs.Lg
section
variable {P : Program} {N : Nat} {rd : Option Nat} {Q : Exit → Fr → List AObj → Prop} {fr : Fr} {s : List AObj}
theorem AC.mono {cc : CC} {Q' : Exit → Fr → List AObj → Prop} (h : AC P N rd cc Q fr s) (hq : ∀ e fr s, Q e fr s → Q' e fr s) : AC P N rd cc Q' fr s :=
 let ⟨e, fr', s', q, hr⟩ := h; ⟨e, fr', s', hq _ _ _ q, hr⟩
theorem AC.frame {cc : CC} {fr0 : Fr} (h : AC P N rd cc Q fr0 s) (hf : ∀ t x, look fr0 t = some x → look fr t = some x) : AC P N rd cc Q fr s :=
 let ⟨e, fr', s', q, hr⟩ := h; ⟨e, fr', s', q, fun c hc => (hr c hc).frame hf⟩
theorem comp_inv {mus : List Nat} {c : Code} {cc : CC} (h : comp P mus N c = some cc) : match cc with
   | .skip => c = .skip ∨ ∃ l, c = .label l
   | .seq x y => ∃ a b, c = .seq a b ∧ comp P mus N a = some x ∧ comp P mus N b = some y
   | .cond p x y => ∃ q a b, c = .cond q a b ∧ cX P 0 q = some p ∧ comp P mus N a = some x ∧ comp P mus N b = some y
   | .block id x => ∃ a, c = .block id a ∧ comp P mus N a = some x
   | .loop x => ∃ a, c = .loop a ∧ comp P mus N a = some x
   | .exit id => c = .exit id
   | .ret => c = .ret
   | .ops _ _ _ => True
   | .trim _ _ => True := by
 cases c with
 | skip => simp [comp] at h; subst h; exact .inl rfl
 | label l => simp [comp] at h; subst h; exact .inr ⟨l, rfl⟩
 | region id ops dr =>
   unfold comp at h
   split at h
   · obtain ⟨l, _, rfl⟩ := map_inv h; trivial
   · cases h
 | seq a b =>
   unfold comp at h
   split at h
   · rename_i x y h1 h2; obtain rfl := Option.some.inj h; exact ⟨a, b, rfl, h1, h2⟩
   · cases h
 | cond p a b =>
   unfold comp at h
   split at h
   · rename_i p' x y h1 h2 h3; obtain rfl := Option.some.inj h; exact ⟨p, a, b, rfl, h1, h2, h3⟩
   · cases h
 | block id a => unfold comp at h; obtain ⟨x, hx, rfl⟩ := map_inv h; exact ⟨a, rfl, hx⟩
 | loop a => unfold comp at h; obtain ⟨x, hx, rfl⟩ := map_inv h; exact ⟨a, rfl, hx⟩
 | exit id => simp [comp] at h; subst h; rfl
 | ret => simp [comp] at h; subst h; rfl
 | rangeFunc f ps a b => simp [comp] at h
 | scope a => simp [comp] at h
 | goto l => simp [comp] at h
 | refuse w => simp [comp] at h
theorem AC.skip (h : Q .normal fr s) : AC P N rd .skip Q fr s := ⟨_, _, _, h, fun c ⟨mus, hc⟩ => by
 rcases comp_inv hc with rfl | ⟨l, rfl⟩
 · exact fun _ _ _ _ _ _ h1 h2 h3 => wpIn_skip (Ends.now h1 h2 h3)
 · exact fun _ _ _ _ _ _ h1 h2 h3 => wpIn_label (Ends.now h1 h2 h3)⟩
theorem AC.exit {id : Nat} (h : Q (.exit id) fr s) : AC P N rd (.exit id) Q fr s := ⟨_, _, _, h, fun c ⟨mus, hc⟩ => by
 obtain rfl : c = .exit id := comp_inv hc
 exact fun _ _ _ _ _ _ h1 h2 h3 => wpIn_exit (Ends.now h1 h2 h3)⟩
theorem AC.ret (h : Q .ret fr s) : AC P N rd .ret Q fr s := ⟨_, _, _, h, fun c ⟨mus, hc⟩ => by
 obtain rfl : c = .ret := comp_inv hc
 exact fun _ _ _ _ _ _ h1 h2 h3 => wpIn_ret (Ends.now h1 h2 h3)⟩
theorem AC.seq {x y : CC} (h : AC P N rd x (SeqQ (AC P N rd y Q) Q) fr s) : AC P N rd (.seq x y) Q fr s := by
 obtain ⟨e, fr1, s1, hq, hr⟩ := h
 by_cases he : e = .normal
 · subst he
   obtain ⟨e2, fr2, s2, q2, r2⟩ := hq
   refine ⟨e2, fr2, s2, q2, fun c ⟨mus, hc⟩ => ?_⟩
   obtain ⟨a, b, rfl, ha, hb⟩ := comp_inv hc
   exact (hr a ⟨mus, ha⟩).seq (r2 b ⟨mus, hb⟩)
 · refine ⟨e, fr1, s1, ?_, fun c ⟨mus, hc⟩ => ?_⟩
   · cases e with
     | normal => exact absurd rfl he
     | _ => exact hq
   · obtain ⟨a, b, rfl, ha, hb⟩ := comp_inv hc
     exact (hr a ⟨mus, ha⟩).seqX he
theorem AC.cond {p : X} {x y : CC} {v : Bool} (hp : (p.ev fr).bind AV.bool? = some v) (h : AC P N rd (if v then x else y) Q fr s) : AC P N rd (.cond p x y) Q fr s := by
 obtain ⟨e, fr1, s1, hq, hr⟩ := h
 refine ⟨e, fr1, s1, hq, fun c ⟨mus, hc⟩ => ?_⟩
 obtain ⟨q, a, b, rfl, hp', ha, hb⟩ := comp_inv hc
 intro B k ac w r h0 h1 h2 h3
 obtain ⟨pv, hpv, hb1⟩ := bind_inv hp
 have he : ac.eval q = .bool v := (cX_ok hp' hpv fun u y e hl => h2 u y hl).sc_eq (AV.bool_sc hb1)
 refine wpIn_cond (t := v) he ?_
 cases v with
 | true => exact hr a ⟨mus, ha⟩ B k ac w r h0 h1 h2 h3
 | false => exact hr b ⟨mus, hb⟩ B k ac w r h0 h1 h2 h3
theorem AC.block {id : Nat} {x : CC} (h : AC P N rd x (BlockQ id Q) fr s) : AC P N rd (.block id x) Q fr s := by
 obtain ⟨e, fr1, s1, hq, hr⟩ := h
 rw [BlockQ_eq] at hq
 refine ⟨_, fr1, s1, hq, fun c ⟨mus, hc⟩ => ?_⟩
 obtain ⟨a, rfl, ha⟩ := comp_inv hc
 intro B k ac w r h0 h1 h2 h3
 refine wpIn_block (wpIn_mono (hr a ⟨mus, ha⟩ B k ac w r h0 h1 h2 h3) ?_)
 rintro e' a' w' ⟨rfl, hh⟩
 cases e' with
 | exit id' =>
   show if id' = id then _ else _
   by_cases e : id' = id
   · have hE : blockE id (.exit id') = .normal := if_pos e
     rw [if_pos e, hE]; exact ⟨rfl, hh⟩
   · have hE : blockE id (.exit id') = .exit id' := if_neg e
     rw [if_neg e, hE]; exact ⟨rfl, hh⟩
 | _ => exact ⟨rfl, hh⟩
inductive LoopTrC (P : Program) (N : Nat) (rd : Option Nat) (x : CC) (e : Exit) (fr' : Fr) (s' : List AObj) : Fr → List AObj → Prop
 | last {fr fr0 : Fr} {s : List AObj} : (∀ t y, look fr0 t = some y → look fr t = some y) → e ≠ .normal → RunsC P N rd x fr0 s e fr' s' → LoopTrC P N rd x e fr' s' fr s
 | more {fr fr0 fr1 : Fr} {s s1 : List AObj} : (∀ t y, look fr0 t = some y → look fr t = some y) → RunsC P N rd x fr0 s .normal fr1 s1 → LoopTrC P N rd x e fr' s' fr1 s1 → LoopTrC P N rd x e fr' s' fr s
theorem LoopTrC.tr {x : CC} {e : Exit} {fr' : Fr} {s' : List AObj} (h : LoopTrC P N rd x e fr' s' fr s) {c : Code} (hc : LLc P N c x) : ∃ n, LoopTr (LLc P) P N rd c e fr' s' n fr s := by
 induction h with
 | last hf he hr => exact ⟨0, .last he ((hr c hc).frame hf)⟩
 | more hf hr _ ih => obtain ⟨n, hn⟩ := ih; exact ⟨n + 1, .more ((hr c hc).frame hf) hn⟩
def Sub (fr' fr : Fr) : Prop := ∀ t x, look fr' t = some x → look fr t = some x
theorem Sub.refl (fr : Fr) : Sub fr fr := fun _ _ h => h
theorem Sub.nil (fr : Fr) : Sub [] fr := fun _ _ h => by cases h
theorem Sub.cons {fr' fr : Fr} {t : Nat} {x : AV} (h : look fr t = some x) (hs : Sub fr' fr) : Sub ((t, x) :: fr') fr := fun u y hy => by
 unfold look at hy
 split at hy
 · rename_i e; subst e; obtain rfl := Option.some.inj hy; exact h
 · exact hs u y hy
def restr (keep : List Nat) (fr : Fr) : Fr := keep.filterMap fun t => (look fr t).map fun x => (t, x)
theorem restr_sub (keep : List Nat) (fr : Fr) : Sub (restr keep fr) fr := by
 induction keep with
 | nil => exact Sub.nil fr
 | cons t l ih =>
   unfold restr
   rw [List.filterMap_cons]
   cases h : look fr t with
   | none => exact ih
   | some x => exact Sub.cons h ih
theorem AC.trim {keep : List Nat} {x : CC} (h : AC P N rd x Q (restr keep fr) s) : AC P N rd (.trim keep x) Q fr s :=
 let ⟨e, fr', s', q, hr⟩ := h; ⟨e, fr', s', q, fun c hc => (hr c hc).frame (restr_sub keep fr)⟩
def LoopP (body : (Exit → Fr → List AObj → Prop) → Fr → List AObj → Prop) (Q : Exit → Fr → List AObj → Prop) (fr : Fr) (s : List AObj) : Prop :=
 ∃ (Inv : Nat → Fr → List AObj → Prop), (∃ m fr0, Sub fr0 fr ∧ Inv m fr0 s) ∧ ∀ m fr s, Inv m fr s → body (SeqQ (fun fr' s' => ∃ m' fr'', m' < m ∧ Sub fr'' fr' ∧ Inv m' fr'' s') Q) fr s
theorem AC.loop {x : CC} (Inv : Nat → Fr → List AObj → Prop) {m : Nat} {fr0 : Fr} (hs : Sub fr0 fr) (h0 : Inv m fr0 s) (h : ∀ m fr s, Inv m fr s → AC P N rd x (SeqQ (fun fr' s' => ∃ m' fr'', m' < m ∧ Sub fr'' fr' ∧ Inv m' fr'' s') Q) fr s) : AC P N rd (.loop x) Q fr s := by
 have key : ∀ m fr0 fr s, Sub fr0 fr → Inv m fr0 s → ∃ e fr' s', Q e fr' s' ∧ LoopTrC P N rd x e fr' s' fr s := by
   intro m
   induction m using Nat.strongRecOn with
   | _ m ih =>
     intro fr0 fr s hsub hi
     obtain ⟨e, fr1, s1, hq, hr⟩ := h m fr0 s hi
     by_cases he : e = .normal
     · subst he
       obtain ⟨m', fr'', hlt, hsub', hi'⟩ := hq
       obtain ⟨e2, fr2, s2, q2, t2⟩ := ih m' hlt fr'' fr1 s1 hsub' hi'
       exact ⟨e2, fr2, s2, q2, .more hsub hr t2⟩
     · refine ⟨e, fr1, s1, ?_, .last hsub he hr⟩
       cases e with
       | normal => exact absurd rfl he
       | _ => exact hq
 obtain ⟨e, fr', s', hq, ht⟩ := key m fr0 fr s hs h0
 refine ⟨e, fr', s', hq, fun c ⟨mus, hc⟩ => ?_⟩
 obtain ⟨a, rfl, ha⟩ := comp_inv hc
 obtain ⟨n, hn⟩ := ht.tr ⟨mus, ha⟩
 exact hn.runs
end
end Go.Bb
