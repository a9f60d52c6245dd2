/-
  Part GAG of this claim's proof. Joined by merge.py from the texts of wip/tpl.
-/
import Derived.Test.YtclholnhkhjjaaaGreatGAF
set_option linter.unusedVariables false
set_option linter.unusedSimpArgs false
set_option linter.unnecessarySimpa false
set_option linter.unusedVariables false
namespace Go.Bb
open Go Go.RowKit Go.Ab Go.Proofs.Lg
section
variable {LL : Nat → Code → CC → Prop} {P : Program} {o : Oper} {fr : Fr} {s s' : List AObj} {d : AV}
theorem RA.keyK_eq {k : Cfg} {w : World} {v : Value} {x : AV} {ag : Bool} {ks : List SK} {us : List Value} {t : TypeId} (h : RA k w v x) (hx : x.keyK ag ks = some us) (ht : ag = isAggT P t) : v = valC P t us ∧ us.length = ks.length := by
 obtain ⟨us', h1, h2⟩ := bind_inv hx
 split at h2
 · obtain rfl := Option.some.inj h2
   exact ⟨(h.key_eq h1 ht).1, by assumption⟩
 · cases h2
theorem MapOk.ents {ag : Bool} {k : Cfg} {w : World} {es : List (List Value × AV)} {ents : Array MapEntry} {clk : Nat} (h : MapOk ag k w es ents clk) : EntsOk ag k w es ents.toList :=
 ⟨by simpa using h.1, fun i e x he hx => let ⟨h1, h2, _⟩ := h.2.2 i e x (by simpa using he) hx; ⟨h1, h2⟩⟩
theorem map_upd {B : Nat} {k : Cfg} {w : World} (hst : St LL B k s w) {id b : Nat} {ag : Bool} {es es' : List (List Value × AV)} {ents ents' : Array MapEntry} {clk clk' : Nat} (hid : s[id]? = some (.map ag es)) (hb : k.own[id]? = some (.blk b)) (hh : w.heap[b]? = some (.map ents clk)) (hI : k.I b = 0)
   (hm : Mono k w k (w.putObj b (.map ents' clk')) → MapOk ag k (w.putObj b (.map ents' clk')) es' ents' clk') : Mono k w k (w.putObj b (.map ents' clk')) ∧ Ext B k w k (w.putObj b (.map ents' clk')) ∧ St LL B k (s.set id (.map ag es')) (w.putObj b (.map ents' clk')) := by
 have hlt := heap_lt hh
 have hbB := hst.lies id _ b hb rfl
 have hk : KeepI k.I w k.I (w.putObj b (.map ents' clk')) := fun b' q u hq hc => ⟨hq, by
   have hne : b' ≠ b := by rintro rfl; unfold World.cell? at hc; rw [hh] at hc; cases hc
   exact (World.cell?_of_block (w := w) (World.putObj_heap_other hne)).trans hc⟩
 have hbl : Below B w (w.putObj b (.map ents' clk')) := ⟨rfl, rfl, rfl, by simp, fun j hj => World.putObj_heap_other (by omega)⟩
 refine ⟨mono_same hk, hst.upd (k' := k) hb (.map ag es') (own_set_self hb) (OwnLe.refl _) hk hbl (fun b2 hb2 => by cases hb2; exact ⟨.inl rfl, by simpa using hbB.2, hbB.1⟩)
   (fun b2 _ hne => ⟨World.putObj_heap_other (fun e => hne (by rw [e]; rfl)), rfl⟩) ⟨ents', clk', World.putObj_heap_same hlt, hm (mono_same hk), hI⟩⟩
theorem ok_mkm {t kt et : TypeId} (ho : o.op = .makeMap t none) (h : (CI.mkm (isAggT P kt)).sem fr s = some (d, s')) : AOp LL P o fr s d s' := by
 obtain ⟨rfl, rfl⟩ := Prod.mk.inj (Option.some.inj (show some (AV.mp s.length, s ++ [AObj.map (isAggT P kt) []]) = some (d, s') from h))
 intro B k a w hops hst
 have hb : Below w.heap.size w (w.alloc (.map #[] 0)) := (Below.refl _ _).alloc (Nat.le_refl _) _
 have hh : (w.alloc (.map #[] 0)).heap[w.heap.size]? = some (.map #[] 0) := heap_alloc_new w _
 have hlt := heap_lt hh
 have hI : ∀ b, b < w.heap.size → updI k.I w.heap.size 0 b = k.I b := fun b hb => updI_ne _ _ (by omega)
 obtain ⟨he, hs2⟩ := hst.new hb hI (.blk w.heap.size) (.map (isAggT P kt) []) (fun b hb => by cases hb; exact ⟨Nat.le_refl _, hlt⟩) ⟨#[], 0, hh, ⟨rfl, rfl, fun i e x he _ => by simp at he⟩, updI_self ..⟩
 refine OpWp.value (v := .map (some w.heap.size)) ?_ ⟨_, .mp (by rw [← hst.len]; simp), he, hs2⟩
 unfold execOp; rw [ho]
 refine run_value ?_
 simp only [Instr.makeMap, Option.map_none, Sem.run_bind, Sem.run_pure, run_newObj, Result.andThen_ok]
 rfl
theorem zeroA_ok {e : TypeId} {z : AV} (h : zeroA P e = some z) (k : Cfg) (w : World) : ∃ v, (zeroValue e).run P w = .ok v w ∧ ∀ k w, RA k w v z := by
 unfold zeroA at h
 split at h
 · rename_i i hi
   split at h
   · rename_i v hv
     exact ⟨v, by simp [zeroValue, typeInfo, hi, hv], fun k w => cA_ok h k w⟩
   · cases h
 · cases h
theorem ok_lkp {t kt et : TypeId} {ok : Bool} {p q : Operand} {m x : X} {ks : List SK} {z : AV} (ho : o.op = .lookup t p q ok) (hu : P.underlying t = some (.map kt et)) (hm : cX P t p = some m) (hx : cX P kt q = some x) (hk : leafS P 12 kt = some ks) (hz : zeroA P et = some z)
   (h : (CI.lkp (isAggT P kt) ks z ok m x).sem fr s = some (d, s')) : AOp LL P o fr s d s' := by
 have hp : p ∈ o.op.operands := by rw [ho]; simp [Op.operands]
 have hq : q ∈ o.op.operands := by rw [ho]; simp [Op.operands]
 obtain ⟨hc, rfl⟩ := ret_inv h
 obtain ⟨key, hkey, hc1⟩ := bind_inv hc
 obtain ⟨kv, hkv, hkey1⟩ := bind_inv hkey
 obtain ⟨mv, hmv, hd⟩ := bind_inv hc1
 refine AOp.pure fun B k a w hops hst => ?_
 obtain ⟨hv1, hl⟩ := (ev_ok hops hq hx hkv).keyK_eq (P := P) (t := kt) hkey1 rfl
 obtain ⟨zv, hz1, hz2⟩ := zeroA_ok hz k w
 have hr := ev_ok hops hp hm hmv
 have fin : ∀ (v : Value) (bo : Bool) (dd : AV), RA k w v dd → (Instr.lookup t (a.eval p) (a.eval q) ok).run P w = .ok (if ok then .tuple #[v, .bool bo] else v) w → d = (if ok then .tup [dd, boolD bo] else dd) →
     ∃ v, (execOp a.eval o).run P w = .ok (.value v) w ∧ RA k w v d := fun v bo dd h1 h2 h3 => by
   refine ⟨_, by unfold execOp; rw [ho]; exact run_value h2, ?_⟩
   subst h3
   cases ok with
   | false => exact h1
   | true =>
     refine .tup (us := [v, .bool bo]) rfl fun i u c hu hc => ?_
     match i with
     | 0 => simp at hu hc; subst hu; subst hc; exact h1
     | 1 => simp at hu hc; subst hu; subst hc; exact .d (RD.sc _)
     | i + 2 => simp at hu
 unfold rdLkp at hd
 split at hd
 · rename_i id
   obtain ⟨es, hes, hd1⟩ := bind_inv hd
   obtain ⟨r, hr1, rfl⟩ := map_inv hd1
   obtain ⟨b, hb, hmm⟩ := hr.mp_inv
   obtain ⟨b', ents, clk, g1, g2, g3, _⟩ := hst.map (mapO_inv hes)
   rw [hb] at g1; cases g1
   obtain ⟨fq, hf1, hf2⟩ := findKey_ok hk g3.ents hr1
   have hck : ∀ em, (Instr.checkKey em 10000 kt (a.eval q)).run P w = .ok () w := fun em => by rw [hv1]; exact checkKey_ok 12 10000 kt ks (by omega) hk key hl
   rw [← hv1] at hf1
   have hget : (getObj b).run P w = .ok (.map ents clk) w := by simp [getObj, Sem.run, g2]
   match r, fq, hf2 with
   | none, none, _ =>
     refine fin zv false z (hz2 k w) ?_ rfl
     simp only [Instr.lookup, Sem.run_bind, run_underlying hu, Result.andThen_ok, hmm, hget, Sem.run_pure, hck, hf1, hz1]
   | some (i, y), some (j, v), hf2 =>
     obtain ⟨_, _, h2, _⟩ := hf2
     refine fin v true y h2 ?_ rfl
     simp only [Instr.lookup, Sem.run_bind, run_underlying hu, Result.andThen_ok, hmm, hget, Sem.run_pure, hck, hf1]
 · obtain rfl := Option.some.inj hd
   have hmm := hr.sc_eq (u := .map none) rfl
   have hck : ∀ em, (Instr.checkKey em 10000 kt (a.eval q)).run P w = .ok () w := fun em => by rw [hv1]; exact checkKey_ok 12 10000 kt ks (by omega) hk key hl
   obtain ⟨fq, hf1, hf2⟩ := findKey_ok (P := P) (kt := kt) (ks := ks) (key := key) (k := k) (w := w) (es := []) (l := []) (r := none) hk ⟨rfl, fun i e x he _ => by simp at he⟩ rfl
   rw [← hv1] at hf1
   cases fq with
   | none =>
     refine fin zv false z (hz2 k w) ?_ rfl
     simp only [Instr.lookup, Sem.run_bind, run_underlying hu, Result.andThen_ok, hmm, Sem.run_pure, hck, hf1, hz1]
   | some _ => exact hf2.elim
 · cases hd
theorem keyStays {ag : Bool} {us : List Value} {w : World} (h : ∀ u ∈ us, simpleV u = true) (hne : ag = false → us ≠ []) : (Instr.keyThatStays (keyV ag us) (keyV ag us)).run P w = .ok (keyV ag us) w := by
 simp [Instr.keyThatStays, sameBits_key h hne]
theorem leafS_ne {d : Nat} {t : TypeId} {ks : List SK} (h : leafS P d t = some ks) (ha : isAggT P t = false) : ks ≠ [] := by
 cases d with
 | zero => simp [leafS] at h
 | succ d =>
   unfold leafS at h
   unfold isAggT at ha
   split at h
   · split at h
     · obtain rfl := Option.some.inj h; simp
     · cases h
   · split at h
     · obtain rfl := Option.some.inj h; simp
     · cases h
   · split at h
     · obtain rfl := Option.some.inj h; simp
     · cases h
   · rename_i hu; rw [hu] at ha; cases ha
   · rename_i hu; rw [hu] at ha; cases ha
   · cases h
theorem findE_hit {ks : List SK} {key : List Value} : ∀ (es : List (List Value × AV)) (i0 i : Nat) (y : AV), findE ks key es i0 = some (some (i, y)) → i0 ≤ i ∧ es[i - i0]? = some (key, y) ∧ ∀ u ∈ key, simpleV u = true
 | [], _, _, _, h => by simp [findE] at h
 | x :: es, i0, i, y, h => by
   obtain ⟨b, hb, h1⟩ := bind_inv (show ((eqKs ks key x.1).bind fun b => if b = true then some (some (i0, x.2)) else findE ks key es (i0 + 1)) = _ from h)
   cases b with
   | true =>
     simp only [if_true] at h1
     obtain ⟨rfl, rfl⟩ := Prod.mk.inj (Option.some.inj (Option.some.inj h1))
     refine ⟨Nat.le_refl _, ?_, (eqKs_simple hb).1⟩
     rw [eqKs_true hb]; simp
   | false =>
     simp only [Bool.false_eq_true, if_false] at h1
     obtain ⟨h2, h3, h4⟩ := findE_hit es (i0 + 1) i y h1
     have hi : i - i0 = (i - (i0 + 1)) + 1 := by omega
     exact ⟨by omega, by rw [hi]; exact h3, h4⟩
theorem MapOk.set {ag : Bool} {k : Cfg} {w : World} {es : List (List Value × AV)} {ents : Array MapEntry} {clk : Nat} (h : MapOk ag k w es ents clk) {i : Nat} {x : List Value × AV} {f : MapEntry → MapEntry} (hf : ∀ e y, ents[i]? = some e → es[i]? = some y → (f e).key = keyV ag x.1 ∧ RA k w (f e).val x.2 ∧ (f e).born = e.born) :
   MapOk ag k w (es.set i x) (ents.modify i f) clk := by
 obtain ⟨h1, h2, h3⟩ := h
 refine ⟨by simp [h1], by simp [h2], fun j e y he hy => ?_⟩
 rw [Array.getElem?_modify] at he
 rw [List.getElem?_set] at hy
 by_cases e1 : i = j
 · subst e1
   rw [if_pos rfl] at he hy
   obtain ⟨e0, he0, rfl⟩ := map_inv he
   split at hy
   · obtain rfl := Option.some.inj hy
     have hlt : i < es.length := by assumption
     obtain ⟨q1, q2, q3⟩ := hf e0 es[i] he0 (List.getElem?_eq_getElem hlt)
     exact ⟨q1, q2, by rw [q3]; exact (h3 i e0 es[i] he0 (List.getElem?_eq_getElem hlt)).2.2⟩
   · cases hy
 · rw [if_neg e1] at he hy
   exact h3 j e y he hy
theorem MapOk.push {ag : Bool} {k : Cfg} {w : World} {es : List (List Value × AV)} {ents : Array MapEntry} {clk : Nat} (h : MapOk ag k w es ents clk) {x : List Value × AV} {v : Value} (hv : RA k w v x.2) : MapOk ag k w (es ++ [x]) (ents.push { key := keyV ag x.1, val := v, born := clk }) (clk + 1) := by
 obtain ⟨h1, h2, h3⟩ := h
 refine ⟨by simp [h1], by simp [h2], fun j e y he hy => ?_⟩
 rcases getElem?_snoc hy with hy2 | ⟨rfl, rfl⟩
 · have hlt := (List.getElem?_eq_some_iff.1 hy2).1
   rw [Array.getElem?_push, if_neg (by omega)] at he
   exact h3 j e y he hy2
 · rw [Array.getElem?_push, if_pos h1.symm] at he
   obtain rfl := Option.some.inj he
   exact ⟨rfl, hv, h2⟩
theorem ok_mup {t kt et : TypeId} {p q v : Operand} {m x y : X} {ks : List SK} (ho : o.op = .mapUpdate t p q v) (hu : P.underlying t = some (.map kt et)) (hm : cX P t p = some m) (hx : cX P kt q = some x) (hy : cX P et v = some y) (hk : leafS P 12 kt = some ks)
   (h : (CI.mup (isAggT P kt) ks m x y).sem fr s = some (d, s')) : AOp LL P o fr s d s' := by
 have hp : p ∈ o.op.operands := by rw [ho]; simp [Op.operands]
 have hq : q ∈ o.op.operands := by rw [ho]; simp [Op.operands]
 have hv : v ∈ o.op.operands := by rw [ho]; simp [Op.operands]
 obtain ⟨key, hkey, hc1⟩ := bind_inv (show (((x.ev fr).bind (AV.keyK (isAggT P kt) ks)).bind fun key => (y.ev fr).bind fun u => (m.ev fr).bind fun p => semMup (isAggT P kt) ks s key u p) = some (d, s') from h)
 obtain ⟨kv, hkv, hkey1⟩ := bind_inv hkey
 obtain ⟨yv, hyv, hc2⟩ := bind_inv hc1
 obtain ⟨mv, hmv, hd⟩ := bind_inv hc2
 intro B k a w hops hst
 obtain ⟨hv1, hl⟩ := (ev_ok hops hq hx hkv).keyK_eq (P := P) (t := kt) hkey1 rfl
 have hr := ev_ok hops hp hm hmv
 have hry := ev_ok hops hv hy hyv
 have hck : ∀ em, (Instr.checkKey em 10000 kt (a.eval q)).run P w = .ok () w := fun em => by rw [hv1]; exact checkKey_ok 12 10000 kt ks (by omega) hk key hl
 unfold semMup at hd
 split at hd
 · rename_i id
   obtain ⟨es, hes, hd1⟩ := bind_inv hd
   obtain ⟨r, hr1, he⟩ := map_inv hd1
   obtain ⟨rfl, rfl⟩ := Prod.mk.inj he
   have hid := mapO_inv hes
   obtain ⟨b, hb, hmm⟩ := hr.mp_inv
   obtain ⟨b', ents, clk, g1, g2, g3, gI⟩ := hst.map hid
   rw [hb] at g1; cases g1
   obtain ⟨fq, hf1, hf2⟩ := findKey_ok hk g3.ents hr1
   rw [← hv1] at hf1
   have hget : (getObj b).run P w = .ok (.map ents clk) w := by simp [getObj, Sem.run, g2]
   have hset : ∀ ob, (setObj b ob).run P w = .ok () (w.putObj b ob) := fun ob => by simp [setObj, Sem.run, g2, World.putObj]
   have hkv2 : a.eval q = keyV (isAggT P kt) key := by rw [hv1, keyV_valC]
   match r, fq, hf2 with
   | none, none, _ =>
     obtain ⟨_, he, hs2⟩ := map_upd hst (es' := es ++ [(key, yv)]) (ents' := ents.push { key := keyV (isAggT P kt) key, val := a.eval v, born := clk }) (clk' := clk + 1) hid hb g2 gI fun hmono => (g3.mono hmono).push (hry.mono hmono)
     refine OpWp.skip ?_ ⟨k, RA.undf, he, hs2⟩
     unfold execOp; rw [ho]
     refine run_unit ?_
     simp only [Instr.mapUpdate, Sem.run_bind, run_underlying hu, Result.andThen_ok, hmm, hget, hck, hf1, hset]
     rw [hkv2]
   | some (i, y'), some (j, v'), hf2 =>
     obtain ⟨rfl, _, h2, e, qk, h3, h4, h5⟩ := hf2
     obtain ⟨_, hit, hsim⟩ := findE_hit es 0 i y' hr1
     simp only [Nat.sub_zero] at h3 h4 hit
     rw [hit] at h4
     obtain ⟨rfl, _⟩ := Prod.mk.inj (Option.some.inj h4)
     have he3 : ents[i]? = some e := by simpa using h3
     have hek : e.key = keyV (isAggT P kt) key := (g3.2.2 i e _ he3 hit).1
     have hne : isAggT P kt = false → key ≠ [] := fun ha hn => leafS_ne hk ha (by subst hn; exact List.eq_nil_of_length_eq_zero hl.symm)
     obtain ⟨_, he, hs2⟩ := map_upd hst (es' := es.set i (key, yv)) (ents' := ents.modify i fun e => { e with key := keyV (isAggT P kt) key, val := a.eval v }) (clk' := clk) hid hb g2 gI fun hmono => (g3.mono hmono).set fun e' y2 _ _ => ⟨rfl, hry.mono hmono, rfl⟩
     refine OpWp.skip ?_ ⟨k, RA.undf, he, hs2⟩
     unfold execOp; rw [ho]
     refine run_unit ?_
     rw [hkv2] at hck hf1
     simp only [Instr.mapUpdate, Sem.run_bind, run_underlying hu, Result.andThen_ok, hmm, hget, hck, hf1, hset, he3, Option.map_some, Option.getD_some, hek, hkv2, keyStays hsim hne]
 · cases hd
theorem ok_ins {t kt et : TypeId} {p q v : Operand} {m x y : X} {ks : List SK} (ho : o.op = .insert t p q v) (hu : P.underlying t = some (.map kt et)) (hm : cX P t p = some m) (hx : cX P kt q = some x) (hy : cX P et v = some y) (hk : leafS P 12 kt = some ks)
   (h : (CI.mup (isAggT P kt) ks m x y).sem fr s = some (d, s')) : AOp LL P o fr s d s' := by
 have hp : p ∈ o.op.operands := by rw [ho]; simp [Op.operands]
 have hq : q ∈ o.op.operands := by rw [ho]; simp [Op.operands]
 have hv : v ∈ o.op.operands := by rw [ho]; simp [Op.operands]
 obtain ⟨key, hkey, hc1⟩ := bind_inv (show (((x.ev fr).bind (AV.keyK (isAggT P kt) ks)).bind fun key => (y.ev fr).bind fun u => (m.ev fr).bind fun p => semMup (isAggT P kt) ks s key u p) = some (d, s') from h)
 obtain ⟨kv, hkv, hkey1⟩ := bind_inv hkey
 obtain ⟨yv, hyv, hc2⟩ := bind_inv hc1
 obtain ⟨mv, hmv, hd⟩ := bind_inv hc2
 intro B k a w hops hst
 obtain ⟨hv1, hl⟩ := (ev_ok hops hq hx hkv).keyK_eq (P := P) (t := kt) hkey1 rfl
 have hr := ev_ok hops hp hm hmv
 have hry := ev_ok hops hv hy hyv
 have hck : ∀ em, (Instr.checkKey em 10000 kt (a.eval q)).run P w = .ok () w := fun em => by rw [hv1]; exact checkKey_ok 12 10000 kt ks (by omega) hk key hl
 unfold semMup at hd
 split at hd
 · rename_i id
   obtain ⟨es, hes, hd1⟩ := bind_inv hd
   obtain ⟨r, hr1, he⟩ := map_inv hd1
   obtain ⟨rfl, rfl⟩ := Prod.mk.inj he
   have hid := mapO_inv hes
   obtain ⟨b, hb, hmm⟩ := hr.mp_inv
   obtain ⟨b', ents, clk, g1, g2, g3, gI⟩ := hst.map hid
   rw [hb] at g1; cases g1
   obtain ⟨fq, hf1, hf2⟩ := findKey_ok hk g3.ents hr1
   rw [← hv1] at hf1
   have hget : (getObj b).run P w = .ok (.map ents clk) w := by simp [getObj, Sem.run, g2]
   have hset : ∀ ob, (setObj b ob).run P w = .ok () (w.putObj b ob) := fun ob => by simp [setObj, Sem.run, g2, World.putObj]
   have hkv2 : a.eval q = keyV (isAggT P kt) key := by rw [hv1, keyV_valC]
   match r, fq, hf2 with
   | none, none, _ =>
     obtain ⟨_, he, hs2⟩ := map_upd hst (es' := es ++ [(key, yv)]) (ents' := ents.push { key := keyV (isAggT P kt) key, val := a.eval v, born := clk }) (clk' := clk + 1) hid hb g2 gI fun hmono => (g3.mono hmono).push (hry.mono hmono)
     refine OpWp.skip ?_ ⟨k, RA.undf, he, hs2⟩
     unfold execOp; rw [ho]
     refine run_unit ?_
     simp only [Instr.mapUpdate, Sem.run_bind, run_underlying hu, Result.andThen_ok, hmm, hget, hck, hf1, hset]
     rw [hkv2]
   | some (i, y'), some (j, v'), hf2 =>
     obtain ⟨rfl, _, h2, e, qk, h3, h4, h5⟩ := hf2
     obtain ⟨_, hit, hsim⟩ := findE_hit es 0 i y' hr1
     simp only [Nat.sub_zero] at h3 h4 hit
     rw [hit] at h4
     obtain ⟨rfl, _⟩ := Prod.mk.inj (Option.some.inj h4)
     have he3 : ents[i]? = some e := by simpa using h3
     have hek : e.key = keyV (isAggT P kt) key := (g3.2.2 i e _ he3 hit).1
     have hne : isAggT P kt = false → key ≠ [] := fun ha hn => leafS_ne hk ha (by subst hn; exact List.eq_nil_of_length_eq_zero hl.symm)
     obtain ⟨_, he, hs2⟩ := map_upd hst (es' := es.set i (key, yv)) (ents' := ents.modify i fun e => { e with key := keyV (isAggT P kt) key, val := a.eval v }) (clk' := clk) hid hb g2 gI fun hmono => (g3.mono hmono).set fun e' y2 _ _ => ⟨rfl, hry.mono hmono, rfl⟩
     refine OpWp.skip ?_ ⟨k, RA.undf, he, hs2⟩
     unfold execOp; rw [ho]
     refine run_unit ?_
     rw [hkv2] at hck hf1
     simp only [Instr.mapUpdate, Sem.run_bind, run_underlying hu, Result.andThen_ok, hmm, hget, hck, hf1, hset, he3, Option.map_some, Option.getD_some, hek, hkv2, keyStays hsim hne]
 · cases hd
end
end Go.Bb

set_option linter.unusedVariables false
namespace Go.Bb
open Go Go.RowKit Go.Ab Go.Proofs.Lg
section
variable {LL : Nat → Code → CC → Prop} {P : Program} {o : Oper} {fr : Fr} {s s' : List AObj} {d : AV}
theorem compOp_ok {mus : List Nat} {ci : CI} (h : compOp P mus o = some ci) (hs : ci.sem fr s = some (d, s')) : AOp LL P o fr s d s' := by
 unfold compOp at h
 split at h
 · rename_i x ho
   obtain ⟨y, hy, rfl⟩ := map_inv h
   exact ok_mov (.inl ho) hy hs
 · rename_i x ho
   obtain ⟨y, hy, rfl⟩ := map_inv h
   exact ok_mov (.inr ho) hy hs
 · rename_i c a b ho
   split at h
   · rename_i x y z h1 h2 h3; obtain rfl := Option.some.inj h; exact ok_pick ho h1 h2 h3 hs
   · cases h
 · rename_i t x ho
   split at h
   · rename_i n x h1 h2; obtain rfl := Option.some.inj h; exact ok_ld ho h1 h2 hs
   · cases h
 · rename_i t x v ho
   split at h
   · rename_i i x y h1 h2 h3; obtain rfl := Option.some.inj h; exact ok_st ho h1 h2 h3 hs
   · cases h
 · rename_i t x f ho
   split at h
   · rename_i fs x h1 h2
     split at h
     · rename_i fd h3
       split at h
       · cases h
       · rename_i h4; obtain rfl := Option.some.inj h; exact ok_fad ho h1 h3 h4 h2 hs
     · cases h
   · cases h
 · rename_i t x i ho
   unfold compIad at h
   split at h
   · rename_i e x y h1 h2 h3
     split at h
     · rename_i j h4; obtain rfl := Option.some.inj h; exact ok_iad ho h1 h4 h2 h3 hs
     · cases h
   · cases h
 · rename_i x i ho
   obtain ⟨y, hy, rfl⟩ := map_inv h
   exact ok_ext ho hy hs
 · rename_i op t x y t' ho
   unfold compBin at h
   split at h
   · rename_i neg hn
     split at h
     · rename_i x h1; obtain rfl := Option.some.inj h; exact ok_isn ho hn h1 hs
     · cases h
   split at h
   · rename_i x y h1 h2
     split at h
     · rename_i ag ks neg he; obtain rfl := Option.some.inj h; exact ok_eqa ho h1 h2 he hs
     · obtain rfl := Option.some.inj h; exact ok_bin ho h1 h2 hs
   · cases h
 · rename_i t x ho
   obtain ⟨y, hy, rfl⟩ := map_inv h
   exact ok_not ho hy hs
 · rename_i t x lo hi mx ho
   unfold compSlice at h
   split at h
   · rename_i e x' l h2 h3 h4 h5 h6
     split at h
     · rename_i j h7; obtain rfl := Option.some.inj h; exact ok_slc ho h3 h7 h4 h5 h6 hs
     · cases h
   · cases h
 · rename_i t x ho
   obtain ⟨y, hy, rfl⟩ := map_inv h
   exact ok_box ho hy hs
 · rename_i t ho
   split at h
   · rename_i i h1
     split at h
     · rename_i z h2
       obtain ⟨c, hc, rfl⟩ := map_inv h
       exact ok_alc ho h1 h2 hc hs
     · cases h
   · cases h
 · rename_i t parts ho
   have hci : ∃ z qs, ci = .bld z qs := by
     unfold compBuild at h
     (repeat' split at h) <;> first | (cases h; done) | (obtain ⟨qs, _, he⟩ := map_inv h; exact ⟨_, _, he.symm⟩)
   obtain ⟨z, qs, rfl⟩ := hci
   exact ok_bld ho h hs
 · rename_i t n parts ho
   exact ok_row ho h hs
 · rename_i t l c ho
   exact ok_mks ho h hs
 · rename_i f xs ys ho
   split at h
   · rename_i us vs h1 h2; obtain rfl := Option.some.inj h; exact ok_mkf ho h1 h2 hs
   · cases h
 · rename_i t ho
   split at h
   · rename_i kt et hu; obtain rfl := Option.some.inj h; exact ok_mkm (t := t) (et := et) ho hs
   · cases h
 · rename_i t m k ok ho
   unfold compLookup at h
   split at h
   · rename_i kt et hu
     split at h
     · rename_i m' k' ks z h1 h2 h3 h4; obtain rfl := Option.some.inj h; exact ok_lkp ho hu h1 h2 h3 h4 hs
     · cases h
   · cases h
 · rename_i t m k v ho
   unfold compMup at h
   split at h
   · rename_i kt et hu
     split at h
     · rename_i m' k' v' ks h1 h2 h3 h4; obtain rfl := Option.some.inj h; exact ok_mup ho hu h1 h2 h3 h4 hs
     · cases h
   · cases h
 · rename_i t m k v ho
   unfold compMup at h
   split at h
   · rename_i kt et hu
     split at h
     · rename_i m' k' v' ks h1 h2 h3 h4; obtain rfl := Option.some.inj h; exact ok_ins ho hu h1 h2 h3 h4 hs
     · cases h
   · cases h
 · rename_i c ho
   obtain ⟨callee, args, tys⟩ := c
   obtain ⟨args⟩ := args
   obtain ⟨tys⟩ := tys
   unfold compCall at h
   dsimp only at h
   split at h
   · unfold compLen at h
     split at h
     · split at h
       · rename_i e x h1 h2; obtain rfl := Option.some.inj h; exact ok_len (kd := 0) ho ⟨e, h1⟩ h2 hs
       · rename_i x h1 h2; obtain rfl := Option.some.inj h; exact ok_len (kd := 1) ho h1 h2 hs
       · rename_i k e x h1 h2; obtain rfl := Option.some.inj h; exact ok_len (kd := 2) ho ⟨k, e, h1⟩ h2 hs
       · cases h
     · cases h
   · unfold compApp at h
     split at h
     · split at h
       · rename_i e x y h1 h2 h3
         split at h
         · rename_i j h4
           split at h
           · rename_i z h5
             split at h
             · rename_i h6
               obtain ⟨rfl, h7, h8⟩ := h6
               obtain rfl := Option.some.inj h
               exact ok_app ho h1 h4 h5 h7 h2 h3 hs
             · cases h
           · cases h
         · cases h
       · cases h
     · cases h
   · obtain ⟨y, hy, rfl⟩ := map_inv h
     cases hs
   · split at h
     · obtain rfl := Option.some.inj h; cases hs
     · cases h
   · cases h
 · cases h
theorem sem_read {ci : CI} (h : ci.sem fr s = some (d, s')) (ht : ci.touch fr < 2) : s' = s := by
 cases ci with
 | st n x v => simp [CI.touch] at ht
 | app mu e sz b x y => exact absurd ht (Nat.not_lt.2 (appT_ge (x.ev fr)))
 | mup ag ks m k v => simp [CI.touch] at ht
 | box x => simp [CI.touch] at ht
 | bsl mu e sz n z ps => simp [CI.touch] at ht
 | mks mu e b z l c => simp [CI.touch] at ht
 | mkm ag => simp [CI.touch] at ht
 | call c xs => cases h
 | bad => cases h
 | _ => exact (ret_inv h).2
theorem objOf_same {s s2 : List AObj} {v : AV} (h : ∀ id, v.hdl = some id → s2[id]? = s[id]?) : objOf s2 v = objOf s v := by
 unfold objOf
 cases hv : v.hdl with
 | none => rfl
 | some id => exact h id hv
theorem sem_local {ci : CI} (h : ci.sem fr s = some (d, s)) (ht : ci.touch fr < 2) {s2 : List AObj} (hu : ∀ id, ci.use fr = some id → s2[id]? = s[id]?) : ci.sem fr s2 = some (d, s2) := by
 have re : ∀ {s2 : List AObj} {x : Option AV}, x = some d → ret s2 x = some (d, s2) := fun h => by rw [h]; rfl
 cases ci with
 | st n x v => simp [CI.touch] at ht
 | app mu e sz b x y => exact absurd ht (Nat.not_lt.2 (appT_ge (x.ev fr)))
 | mup ag ks m k v => simp [CI.touch] at ht
 | box x => simp [CI.touch] at ht
 | bsl mu e sz n z ps => simp [CI.touch] at ht
 | mks mu e b z l c => simp [CI.touch] at ht
 | mkm ag => simp [CI.touch] at ht
 | call c xs => cases h
 | bad => cases h
 | ld n x =>
   obtain ⟨hc, _⟩ := ret_inv h
   obtain ⟨v, hv, hd⟩ := bind_inv hc
   refine re ?_
   rw [hv, Option.bind_some, objOf_same fun id hid => hu id (by simp only [CI.use, hv, Option.bind_some, hid])]
   exact hd
 | iad sz x i =>
   obtain ⟨hc, _⟩ := ret_inv h
   obtain ⟨j, hj, hc1⟩ := bind_inv hc
   obtain ⟨v, hv, hd⟩ := bind_inv hc1
   refine re ?_
   rw [hj, Option.bind_some, hv, Option.bind_some]
   cases v with
   | vec id m sz' =>
     rw [objOf_same fun id hid => hu id (by simp only [CI.use, hv, Option.bind_some]; exact hid)]
     exact hd
   | _ => exact hd
 | len kd x =>
   obtain ⟨hc, _⟩ := ret_inv h
   obtain ⟨v, hv, hd⟩ := bind_inv hc
   refine re ?_
   rw [hv, Option.bind_some]
   by_cases hk : kd = 2
   · rw [objOf_same fun id hid => hu id (by simp only [CI.use, hk, if_true, hv, Option.bind_some, hid])]
     exact hd
   · have : ∀ o o', rdLen o kd v = rdLen o' kd v := fun o o' => by
       unfold rdLen
       split <;> first | rfl | exact absurd rfl hk
     rw [this _ (objOf s v)]
     exact hd
 | lkp ag ks z ok m k =>
   obtain ⟨hc, _⟩ := ret_inv h
   obtain ⟨key, hkey, hc1⟩ := bind_inv hc
   obtain ⟨v, hv, hd⟩ := bind_inv hc1
   refine re ?_
   rw [hkey, Option.bind_some, hv, Option.bind_some, objOf_same fun id hid => hu id (by simp only [CI.use, hv, Option.bind_some, hid])]
   exact hd
 | _ => exact re (ret_inv h).1
theorem touch_use {ci : CI} (ht : ci.touch fr < 2) : ci.touch fr = if (ci.use fr).isSome then 1 else 0 := by
 cases ci with
 | st n x v => simp [CI.touch] at ht
 | app mu e sz b x y => exact absurd ht (Nat.not_lt.2 (appT_ge (x.ev fr)))
 | mup ag ks m k v => simp [CI.touch] at ht
 | box x => simp [CI.touch] at ht
 | bsl mu e sz n z ps => simp [CI.touch] at ht
 | mks mu e b z l c => simp [CI.touch] at ht
 | mkm ag => simp [CI.touch] at ht
 | _ => rfl
theorem use_there {ci : CI} (h : ci.sem fr s = some (d, s)) {id : Nat} (hu : ci.use fr = some id) : id < s.length := by
 have lt : ∀ {x : AObj}, s[id]? = some x → id < s.length := fun h => (List.getElem?_eq_some_iff.1 h).1
 cases ci with
 | ld n x =>
   obtain ⟨hc, _⟩ := ret_inv h
   obtain ⟨v, hv, hd⟩ := bind_inv hc
   simp only [CI.use, hv, Option.bind_some] at hu
   have ho : objOf s v = s[id]? := by unfold objOf; rw [hu]; rfl
   rw [ho] at hd
   unfold rdLd at hd
   split at hd
   · cases hu
   · obtain ⟨cs, hcs, _⟩ := bind_inv hd; exact lt (cellsO_inv hcs)
   · obtain ⟨⟨sz, ds⟩, hcs, _⟩ := bind_inv hd; obtain ⟨e, he, _⟩ := vecO_inv hcs; exact lt he
   · cases hd
 | iad sz x i =>
   obtain ⟨hc, _⟩ := ret_inv h
   obtain ⟨j, hj, hc1⟩ := bind_inv hc
   obtain ⟨v, hv, hd⟩ := bind_inv hc1
   simp only [CI.use, hv, Option.bind_some] at hu
   cases v with
   | vec id' m sz' =>
     cases hu
     obtain ⟨⟨sz2, ds⟩, hcs, _⟩ := bind_inv hd; obtain ⟨e, he, _⟩ := vecO_inv hcs; exact lt he
   | _ => cases hu
 | len kd x =>
   obtain ⟨hc, _⟩ := ret_inv h
   obtain ⟨v, hv, hd⟩ := bind_inv hc
   by_cases hk : kd = 2
   · subst hk
     simp only [CI.use, hv, Option.bind_some, if_true] at hu
     have ho : objOf s v = s[id]? := by unfold objOf; rw [hu]; rfl
     obtain ⟨n, hn, _⟩ := map_inv hd
     rw [ho] at hn
     cases v with
     | mp id' => obtain ⟨ag, es, hes, _⟩ := mapN_inv (show mapN s[id]? = some n from hn); exact lt hes
     | d x => cases hu
     | _ => simp [rdLen] at hn
   · simp [CI.use, hk] at hu
 | lkp ag ks z ok m k =>
   obtain ⟨hc, _⟩ := ret_inv h
   obtain ⟨key, hkey, hc1⟩ := bind_inv hc
   obtain ⟨v, hv, hd⟩ := bind_inv hc1
   simp only [CI.use, hv, Option.bind_some] at hu
   have ho : objOf s v = s[id]? := by unfold objOf; rw [hu]; rfl
   rw [ho] at hd
   unfold rdLkp at hd
   split at hd
   · obtain ⟨es, hes, _⟩ := bind_inv hd; exact lt (mapO_inv hes)
   · cases hu
   · cases hd
 | _ => cases hu
theorem setAt_set (id : Nat) (s : List AObj) (x : AObj) : SetAt id s (s.set id x) := ⟨by simp, fun j hj => by rw [List.getElem?_set_ne (Ne.symm hj)]⟩
theorem sem_set {ci : CI} (h : ci.sem fr s = some (d, s')) {id : Nat} (hw : ci.wr fr = some id) : SetAt id s s' := by
 cases ci with
 | st n x v =>
   obtain ⟨p, hp, h1⟩ := bind_inv (show ((x.ev fr).bind fun p => ((v.ev fr).bind AV.cells).bind fun vs => semSt s n vs p) = some (d, s') from h)
   obtain ⟨vs, _, h2⟩ := bind_inv h1
   simp only [CI.wr, hp, Option.bind_some] at hw
   unfold semSt at h2
   split at h2
   · cases hw
     obtain ⟨cs, _, h3⟩ := bind_inv h2
     unfold putCells at h3
     split at h3
     · cases h3; exact setAt_set ..
     · cases h3
   · cases hw
     obtain ⟨cs, _, h3⟩ := bind_inv h2
     unfold putVec at h3
     split at h3
     · cases h3; exact setAt_set ..
     · cases h3
   · cases h2
 | app mu e sz b x y =>
   obtain ⟨p, hp, h1⟩ := bind_inv (show ((x.ev fr).bind fun v => (y.ev fr).bind fun u => semApp s mu e sz b u v) = some (d, s') from h)
   obtain ⟨u, _, h2⟩ := bind_inv h1
   simp only [CI.wr, hp, Option.bind_some] at hw
   unfold semApp at h2
   split at h2
   · cases hw
     obtain ⟨us, _, h3⟩ := bind_inv h2
     obtain ⟨p, _, h4⟩ := bind_inv h3
     split at h4
     · cases h4; exact setAt_set ..
     · cases h4
   · cases hw
   · cases hw
   · cases hw
     obtain ⟨news, _, h3⟩ := bind_inv h2
     split at h3
     · cases h3; exact setAt_set ..
     · cases h3
   · cases h2
 | mup ag ks m k v =>
   obtain ⟨key, _, h1⟩ := bind_inv (show (((k.ev fr).bind (AV.keyK ag ks)).bind fun key => (v.ev fr).bind fun u => (m.ev fr).bind fun p => semMup ag ks s key u p) = some (d, s') from h)
   obtain ⟨u, _, h2⟩ := bind_inv h1
   obtain ⟨p, hp, h3⟩ := bind_inv h2
   simp only [CI.wr, hp, Option.bind_some] at hw
   unfold semMup at h3
   split at h3
   · cases hw
     obtain ⟨es, _, h4⟩ := bind_inv h3
     obtain ⟨r, _, he⟩ := map_inv h4
     cases he; exact setAt_set ..
   · cases h3
 | _ => cases hw
end
end Go.Bb
