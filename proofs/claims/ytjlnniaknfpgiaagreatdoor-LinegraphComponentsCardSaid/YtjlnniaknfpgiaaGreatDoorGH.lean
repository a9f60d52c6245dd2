/-
  Part GH of this claim's proof. Joined by merge.py from the texts of wip/tpl.
-/
import Derived.Test.YtjlnniaknfpgiaaGreatDoorGG
set_option linter.unusedVariables false
set_option linter.unusedSimpArgs false
set_option linter.unnecessarySimpa false
set_option linter.unusedVariables false
namespace Go.Bb
open Go Go.RowKit Go.Ab Go.Proofs.Lg

section
variable {LL : Nat → Code → CC → Prop} {P : Program} {o : Oper} {fr : Fr} {s s' : List AObj} {d : AV}

theorem mk_all {ci : CI} (h : AMk LL P o fr s d s') : AOp LL P o fr s d s' ∧ (ci.touch fr = 3 → AMk LL P o fr s d s') := ⟨h.op, fun _ => h⟩
theorem no_mk {ci : CI} (h : AOp LL P o fr s d s') (ht : ci.touch fr ≠ 3) : AOp LL P o fr s d s' ∧ (ci.touch fr = 3 → AMk LL P o fr s d s') := ⟨h, fun e => absurd e ht⟩
theorem compOp_all {mus : List Nat} {ci : CI} (h : compOp P mus o = some ci) (hs : ci.sem fr s = some (d, s')) : AOp LL P o fr s d s' ∧ (ci.touch fr = 3 → AMk LL P o fr s d s') := by
  unfold compOp at h
  split at h
  · rename_i x ho
    obtain ⟨y, hy, rfl⟩ := map_inv h
    exact no_mk (ok_mov (.inl ho) hy hs) (by simp only [CI.touch]; first | decide | (split <;> decide))
  · rename_i x ho
    obtain ⟨y, hy, rfl⟩ := map_inv h
    exact no_mk (ok_mov (.inr ho) hy hs) (by simp only [CI.touch]; first | decide | (split <;> decide))
  · rename_i c a b ho
    split at h
    · rename_i x y z h1 h2 h3; obtain rfl := Option.some.inj h; exact no_mk (ok_pick ho h1 h2 h3 hs) (by simp only [CI.touch]; first | decide | (split <;> decide))
    · cases h
  · rename_i t x ho
    split at h
    · rename_i n x h1 h2; obtain rfl := Option.some.inj h; exact no_mk (ok_ld ho h1 h2 hs) (by simp only [CI.touch]; first | decide | (split <;> decide))
    · cases h
  · rename_i t x v ho
    split at h
    · rename_i i x y h1 h2 h3; obtain rfl := Option.some.inj h; exact no_mk (ok_st ho h1 h2 h3 hs) (by simp only [CI.touch]; first | decide | (split <;> decide))
    · cases h
  · rename_i t x f ho
    split at h
    · rename_i fs x h1 h2
      split at h
      · rename_i fd h3
        split at h
        · cases h
        · rename_i h4; obtain rfl := Option.some.inj h; exact no_mk (ok_fad ho h1 h3 h4 h2 hs) (by simp only [CI.touch]; first | decide | (split <;> decide))
      · cases h
    · cases h
  · rename_i t x i ho
    unfold compIad at h
    split at h
    · rename_i e x y h1 h2 h3
      split at h
      · rename_i j h4; obtain rfl := Option.some.inj h; exact no_mk (ok_iad ho h1 h4 h2 h3 hs) (by simp only [CI.touch]; first | decide | (split <;> decide))
      · cases h
    · rename_i n e x y h1 h2 h3
      split at h
      · rename_i j h4; obtain rfl := Option.some.inj h; exact no_mk (ok_iap ho h1 h4 h2 h3 hs) (by simp only [CI.touch]; first | decide | (split <;> decide))
      · cases h
    · cases h
  · rename_i t x i ho
    unfold compIndex at h
    split at h
    · rename_i n e x y h1 h2 h3
      split at h
      · rename_i m j h4 h5; obtain rfl := Option.some.inj h; exact no_mk (ok_idx ho h1 h4 h5 h2 h3 hs) (by simp only [CI.touch]; first | decide | (split <;> decide))
      · cases h
    · rename_i x y h1 h2 h3; obtain rfl := Option.some.inj h; exact no_mk (ok_six ho h1 h2 h3 hs) (by simp only [CI.touch]; first | decide | (split <;> decide))
    · cases h
  · rename_i t x f ho
    split at h
    · rename_i fs x h1 h2
      split at h
      · rename_i fd h3
        split at h
        · rename_i n h4; obtain rfl := Option.some.inj h; exact no_mk (ok_fld ho h1 h3 h4 h2 hs) (by simp only [CI.touch]; first | decide | (split <;> decide))
        · cases h
      · cases h
    · cases h
  · rename_i x i ho
    obtain ⟨y, hy, rfl⟩ := map_inv h
    exact no_mk (ok_ext ho hy hs) (by simp only [CI.touch]; first | decide | (split <;> decide))
  · rename_i op t x y t' ho
    unfold compBin at h
    split at h
    · rename_i neg hn
      split at h
      · rename_i x h1; obtain rfl := Option.some.inj h; exact no_mk (ok_isn ho hn h1 hs) (by simp only [CI.touch]; first | decide | (split <;> decide))
      · cases h
    split at h
    · rename_i x y h1 h2
      split at h
      · rename_i ag ks neg he; obtain rfl := Option.some.inj h; exact no_mk (ok_eqa ho h1 h2 he hs) (by simp only [CI.touch]; first | decide | (split <;> decide))
      · obtain rfl := Option.some.inj h; exact no_mk (ok_bin ho h1 h2 hs) (by simp only [CI.touch]; first | decide | (split <;> decide))
    · cases h
  · rename_i t x ho
    obtain ⟨y, hy, rfl⟩ := map_inv h
    exact no_mk (ok_not ho hy hs) (by simp only [CI.touch]; first | decide | (split <;> decide))
  · rename_i t x ho
    split at h
    · rename_i k hu
      obtain ⟨y, hy, rfl⟩ := map_inv h
      exact no_mk (ok_un ho hy hs) (by simp only [CI.touch]; first | decide | (split <;> decide))
    · cases h
  · rename_i t x ho
    split at h
    · rename_i k hu
      obtain ⟨y, hy, rfl⟩ := map_inv h
      exact no_mk (ok_un ho hy hs) (by simp only [CI.touch]; first | decide | (split <;> decide))
    · cases h
  · rename_i t x lo hi mx ho
    unfold compSlice at h
    split at h
    · rename_i e x' l h2 h3 h4 h5 h6
      split at h
      · rename_i j h7; obtain rfl := Option.some.inj h; exact no_mk (ok_slc ho h3 h7 h4 h5 h6 hs) (by simp only [CI.touch]; first | decide | (split <;> decide))
      · rename_i j m h7
        split at h
        · rename_i hz; obtain rfl := Option.some.inj h; exact no_mk (ok_slz ho hz h3 h7 h4 hs) (by simp only [CI.touch]; first | decide | (split <;> decide))
        · cases h
      · cases h
    · rename_i arr x' l h2 h3 h4 h5 h6
      split at h
      · rename_i n e h7
        split at h
        · rename_i j h8
          split at h
          · rename_i hn; obtain rfl := Option.some.inj h; exact no_mk (ok_sla ho (.inr ⟨_, h3, h7⟩) h8 h4 h5 h6 hn hs) (by simp only [CI.touch]; first | decide | (split <;> decide))
          · cases h
        · cases h
      · cases h
    · rename_i n e x' l h2 h3 h4 h5 h6
      split at h
      · rename_i j h8
        split at h
        · rename_i hn; obtain rfl := Option.some.inj h; exact no_mk (ok_sla ho (.inl h3) h8 h4 h5 h6 hn hs) (by simp only [CI.touch]; first | decide | (split <;> decide))
        · cases h
      · cases h
    · rename_i x' l h2 h3 h4 h5 h6
      split at h
      · rename_i hn
        have : mx = none := by simpa using hn
        subst this
        obtain rfl := Option.some.inj h; exact no_mk (ok_sls ho h3 h4 h5 h6 hs) (by simp only [CI.touch]; first | decide | (split <;> decide))
      · cases h
    · cases h
  · rename_i t x ho
    obtain ⟨y, hy, he⟩ := map_inv h
    split at he
    · subst he; exact no_mk (ok_bxf ho hy hs) (by simp only [CI.touch]; first | decide | (split <;> decide))
    · subst he; exact mk_all (ok_box ho hy hs)
  · rename_i t ho
    split at h
    · rename_i i h1
      split at h
      · rename_i z h2
        obtain ⟨c, hc, rfl⟩ := map_inv h
        split at hs
        · rename_i hf; rw [if_pos hf]; exact mk_all (ok_alcT ho h1 h2 hc hs)
        · rename_i hf; rw [if_neg hf]; exact mk_all (ok_alc ho h1 h2 hc hs)
      · cases h
    · cases h
  · rename_i t parts ho
    have hci : ∃ z qs, ci = .bld z qs := by
      unfold compBuild at h
      (repeat' split at h) <;> first | (cases h; done) | (obtain ⟨qs, _, he⟩ := map_inv h; exact ⟨_, _, he.symm⟩)
    obtain ⟨z, qs, rfl⟩ := hci
    exact no_mk (ok_bld ho h hs) (by simp only [CI.touch]; first | decide | (split <;> decide))
  · rename_i t n parts ho
    exact ok_row ho h hs
  · rename_i t l c ho
    exact mk_all (ok_mks ho h hs)
  · rename_i src dst x ho
    unfold compConvert at h
    split at h
    · rename_i k' k x h1 h2 h3; obtain rfl := Option.some.inj h; exact no_mk (ok_cnv ho h1 h2 h3 hs) (by simp only [CI.touch]; first | decide | (split <;> decide))
    · rename_i e x h1 h2 h3
      split at h
      · rename_i h4
        obtain rfl := Option.some.inj h
        split at hs
        · rename_i hf; rw [if_pos hf]; exact mk_all (ok_s2o ho h1 h2 h4 h3 hs)
        · rename_i hf; rw [if_neg hf]; exact no_mk (ok_s2b ho h1 h2 h4 h3 hs) (by simp only [CI.touch]; first | decide | (split <;> decide))
      · cases h
    · rename_i e x h1 h2 h3
      split at h
      · rename_i h4; obtain rfl := Option.some.inj h; exact no_mk (ok_b2s ho h1 h2 h4 h3 hs) (by simp only [CI.touch]; first | decide | (split <;> decide))
      · cases h
    · cases h
  · rename_i x ho
    obtain ⟨y, hy, rfl⟩ := map_inv h
    exact no_mk (ok_nck ho hy hs) (by simp only [CI.touch]; first | decide | (split <;> decide))
  · rename_i f xs ys ho
    split at h
    · rename_i us vs h1 h2; obtain rfl := Option.some.inj h; exact no_mk (ok_mkf ho h1 h2 hs) (by simp only [CI.touch]; first | decide | (split <;> decide))
    · cases h
  · rename_i t ho
    split at h
    · rename_i kt et hu; obtain rfl := Option.some.inj h; exact mk_all (ok_mkm (t := t) (et := et) ho hs)
    · cases h
  · rename_i t m k ok ho
    unfold compLookup at h
    split at h
    · rename_i kt et hu
      split at h
      · rename_i m' k' ks z h1 h2 h3 h4; obtain rfl := Option.some.inj h; exact no_mk (ok_lkp ho hu h1 h2 h3 h4 hs) (by simp only [CI.touch]; first | decide | (split <;> decide))
      · cases h
    · cases h
  · rename_i t m k v ho
    unfold compMup at h
    split at h
    · rename_i kt et hu
      split at h
      · rename_i m' k' v' ks h1 h2 h3 h4; obtain rfl := Option.some.inj h; exact no_mk (ok_mup ho hu h1 h2 h3 h4 hs) (by simp only [CI.touch]; first | decide | (split <;> decide))
      · cases h
    · cases h
  · rename_i t m k v ho
    unfold compMup at h
    split at h
    · rename_i kt et hu
      split at h
      · rename_i m' k' v' ks h1 h2 h3 h4; obtain rfl := Option.some.inj h; exact no_mk (ok_ins ho hu h1 h2 h3 h4 hs) (by simp only [CI.touch]; first | decide | (split <;> decide))
      · cases h
    · cases h
  · rename_i t m k ho
    unfold compMen at h
    split at h
    · rename_i kt et hu
      split at h
      · rename_i m' k' ks z h1 h2 h3 h4; obtain rfl := Option.some.inj h; exact no_mk (ok_men ho hu h1 h2 h3 h4 hs) (by simp only [CI.touch]; first | decide | (split <;> decide))
      · cases h
    · cases h
  · rename_i t m i v ho
    unfold compMst at h
    split at h
    · rename_i kt et hu
      split at h
      · rename_i m' i' v' h1 h2 h3; obtain rfl := Option.some.inj h; exact no_mk (ok_mst ho hu h1 h2 h3 hs) (by simp only [CI.touch]; first | decide | (split <;> decide))
      · cases h
    · cases h
  · rename_i c ho
    obtain ⟨callee, args, tys⟩ := c
    obtain ⟨args⟩ := args
    obtain ⟨tys⟩ := tys
    unfold compCall at h
    dsimp only at h
    split at h
    · unfold compLen at h
      split at h
      · split at h
        · rename_i e x h1 h2; obtain rfl := Option.some.inj h; exact no_mk (ok_len (kd := 0) ho ⟨e, h1⟩ h2 hs) (by simp only [CI.touch]; first | decide | (split <;> decide))
        · rename_i x h1 h2; obtain rfl := Option.some.inj h; exact no_mk (ok_len (kd := 1) ho h1 h2 hs) (by simp only [CI.touch]; first | decide | (split <;> decide))
        · rename_i k e x h1 h2; obtain rfl := Option.some.inj h; exact no_mk (ok_len (kd := 2) ho ⟨k, e, h1⟩ h2 hs) (by simp only [CI.touch]; first | decide | (split <;> decide))
        · cases h
      · cases h
    · unfold compApp at h
      split at h
      · split at h
        · rename_i e x y h1 h2 h3
          split at h
          · rename_i j h4
            split at h
            · rename_i z h5
              split at h
              · rename_i h6
                obtain ⟨rfl, h7, h8⟩ := h6
                obtain rfl := Option.some.inj h
                exact ⟨ok_app ho h1 h4 h5 h7 h2 h3 hs, ok_appN ho h1 h4 h5 h7 h2 h3 hs⟩
              · cases h
            · cases h
          · cases h
        · cases h
      · cases h
    · unfold compClr at h
      split at h
      · split at h
        · rename_i e x h1 h2
          split at h
          · rename_i j h4
            split at h
            · rename_i z h5
              split at h
              · rename_i h6
                obtain rfl := Option.some.inj h
                exact no_mk (ok_clr ho h1 h4 h5 h6.1 h6.2 h2 hs) (by simp [CI.touch])
              · cases h
            · cases h
          · cases h
        · cases h
      · cases h
    · unfold compMM at h
      split at h
      · split at h
        · rename_i x y h1 h2; obtain rfl := Option.some.inj h; exact no_mk (ok_mm (mx := true) ho h1 h2 hs) (by simp only [CI.touch]; first | decide | (split <;> decide))
        · cases h
      · cases h
    · unfold compMM at h
      split at h
      · split at h
        · rename_i x y h1 h2; obtain rfl := Option.some.inj h; exact no_mk (ok_mm (mx := false) ho h1 h2 hs) (by simp only [CI.touch]; first | decide | (split <;> decide))
        · cases h
      · cases h
    · obtain ⟨y, hy, rfl⟩ := map_inv h
      cases hs
    · split at h
      · obtain rfl := Option.some.inj h; cases hs
      · cases h
    · cases h
  · cases h

theorem compOp_ok {mus : List Nat} {ci : CI} (h : compOp P mus o = some ci) (hs : ci.sem fr s = some (d, s')) : AOp LL P o fr s d s' := (compOp_all h hs).1
theorem compOp_mk {mus : List Nat} {ci : CI} (h : compOp P mus o = some ci) (hs : ci.sem fr s = some (d, s')) (ht : ci.touch fr = 3) : AMk LL P o fr s d s' := (compOp_all h hs).2 ht

theorem sem_read {ci : CI} (h : ci.sem fr s = some (d, s')) (ht : ci.touch fr < 2) : s' = s := by
  cases ci with
  | st n x v => simp [CI.touch] at ht
  | app mu e sz b x y => exact absurd ht (Nat.not_lt.2 (appT_ge (x.ev fr)))
  | mup ag ks m k v => simp [CI.touch] at ht
  | men ag ks z m k => simp [CI.touch] at ht
  | mst m i v => simp [CI.touch] at ht
  | box x => simp [CI.touch] at ht
  | s2o e x => simp [CI.touch] at ht
  | bxt t x => simp [CI.touch] at ht
  | clr sz z x => simp [CI.touch] at ht
  | bsl mu e sz n z ps => simp [CI.touch] at ht
  | mks mu e b z l c => simp [CI.touch] at ht
  | mkm ag => simp [CI.touch] at ht
  | call c xs => cases h
  | bad => cases h
  | _ => exact (ret_inv h).2

theorem objOf_same {s s2 : List AObj} {v : AV} (h : ∀ id, v.hdl = some id → s2[id]? = s[id]?) : objOf s2 v = objOf s v := by
  unfold objOf
  cases hv : v.hdl with
  | none => rfl
  | some id => exact h id hv

/-- What reads only, reads the same where the block that it reads is the same. -/
theorem sem_local {ci : CI} (h : ci.sem fr s = some (d, s)) (ht : ci.touch fr < 2) {s2 : List AObj} (hu : ∀ id, ci.use fr = some id → s2[id]? = s[id]?) : ci.sem fr s2 = some (d, s2) := by
  have re : ∀ {s2 : List AObj} {x : Option AV}, x = some d → ret s2 x = some (d, s2) := fun h => by rw [h]; rfl
  cases ci with
  | st n x v => simp [CI.touch] at ht
  | app mu e sz b x y => exact absurd ht (Nat.not_lt.2 (appT_ge (x.ev fr)))
  | mup ag ks m k v => simp [CI.touch] at ht
  | men ag ks z m k => simp [CI.touch] at ht
  | mst m i v => simp [CI.touch] at ht
  | box x => simp [CI.touch] at ht
  | s2o e x => simp [CI.touch] at ht
  | bxt t x => simp [CI.touch] at ht
  | clr sz z x => simp [CI.touch] at ht
  | bsl mu e sz n z ps => simp [CI.touch] at ht
  | mks mu e b z l c => simp [CI.touch] at ht
  | mkm ag => simp [CI.touch] at ht
  | call c xs => cases h
  | bad => cases h
  | ld n x =>
    obtain ⟨hc, _⟩ := ret_inv h
    obtain ⟨v, hv, hd⟩ := bind_inv hc
    refine re ?_
    rw [hv, Option.bind_some, objOf_same fun id hid => hu id (by simp only [CI.use, hv, Option.bind_some, hid])]
    exact hd
  | iad sz x i =>
    obtain ⟨hc, _⟩ := ret_inv h
    obtain ⟨j, hj, hc1⟩ := bind_inv hc
    obtain ⟨v, hv, hd⟩ := bind_inv hc1
    refine re ?_
    rw [hj, Option.bind_some, hv, Option.bind_some]
    cases v with
    | vec id m sz' =>
      rw [objOf_same fun id hid => hu id (by simp only [CI.use, hv, Option.bind_some]; exact hid)]
      exact hd
    | vwn id N m n sz' =>
      rw [objOf_same fun id hid => hu id (by simp only [CI.use, hv, Option.bind_some]; exact hid)]
      exact hd
    | _ => exact hd
  | slc sz x lo hi =>
    obtain ⟨hc, _⟩ := ret_inv h
    obtain ⟨v, hv, hc1⟩ := bind_inv hc
    obtain ⟨l, hl, hc2⟩ := bind_inv hc1
    obtain ⟨m, hm, hd⟩ := bind_inv hc2
    refine re ?_
    rw [hv, Option.bind_some, hl, Option.bind_some, hm, Option.bind_some]
    cases v with
    | vec id m sz' =>
      rw [objOf_same fun id hid => hu id (by simp only [CI.use, hv, Option.bind_some]; exact hid)]
      exact hd
    | vwn id N m n sz' =>
      rw [objOf_same fun id hid => hu id (by simp only [CI.use, hv, Option.bind_some]; exact hid)]
      exact hd
    | _ => exact hd
  | len kd x =>
    obtain ⟨hc, _⟩ := ret_inv h
    obtain ⟨v, hv, hd⟩ := bind_inv hc
    refine re ?_
    rw [hv, Option.bind_some]
    by_cases hk : kd = 2
    · rw [objOf_same fun id hid => hu id (by simp only [CI.use, hk, if_true, hv, Option.bind_some, hid])]
      exact hd
    · have : ∀ o o', rdLen o kd v = rdLen o' kd v := fun o o' => by
        unfold rdLen
        split <;> first | rfl | exact absurd rfl hk
      rw [this _ (objOf s v)]
      exact hd
  | b2s x =>
    obtain ⟨hc, _⟩ := ret_inv h
    obtain ⟨v, hv, hd⟩ := bind_inv hc
    refine re ?_
    rw [hv, Option.bind_some, objOf_same fun id hid => hu id (by simp only [CI.use, hv, Option.bind_some, hid])]
    exact hd
  | lkp ag ks z ok m k =>
    obtain ⟨hc, _⟩ := ret_inv h
    obtain ⟨key, hkey, hc1⟩ := bind_inv hc
    obtain ⟨v, hv, hd⟩ := bind_inv hc1
    refine re ?_
    rw [hkey, Option.bind_some, hv, Option.bind_some, objOf_same fun id hid => hu id (by simp only [CI.use, hv, Option.bind_some, hid])]
    exact hd
  | _ => exact re (ret_inv h).1

theorem touch_use {ci : CI} (ht : ci.touch fr < 2) : ci.touch fr = if (ci.use fr).isSome then 1 else 0 := by
  cases ci with
  | st n x v => simp [CI.touch] at ht
  | app mu e sz b x y => exact absurd ht (Nat.not_lt.2 (appT_ge (x.ev fr)))
  | mup ag ks m k v => simp [CI.touch] at ht
  | men ag ks z m k => simp [CI.touch] at ht
  | mst m i v => simp [CI.touch] at ht
  | box x => simp [CI.touch] at ht
  | s2o e x => simp [CI.touch] at ht
  | bxt t x => simp [CI.touch] at ht
  | clr sz z x => simp [CI.touch] at ht
  | bsl mu e sz n z ps => simp [CI.touch] at ht
  | mks mu e b z l c => simp [CI.touch] at ht
  | mkm ag => simp [CI.touch] at ht
  | _ => rfl

/-- The block that is read is there. -/
theorem use_there {ci : CI} (h : ci.sem fr s = some (d, s)) {id : Nat} (hu : ci.use fr = some id) : id < s.length := by
  have lt : ∀ {x : AObj}, s[id]? = some x → id < s.length := fun h => (List.getElem?_eq_some_iff.1 h).1
  cases ci with
  | ld n x =>
    obtain ⟨hc, _⟩ := ret_inv h
    obtain ⟨v, hv, hd⟩ := bind_inv hc
    simp only [CI.use, hv, Option.bind_some] at hu
    have ho : objOf s v = s[id]? := by unfold objOf; rw [hu]; rfl
    rw [ho] at hd
    unfold rdLd at hd
    split at hd
    · cases hu
    · obtain ⟨cs, hcs, _⟩ := bind_inv hd; exact lt (cellsO_inv hcs)
    · obtain ⟨⟨sz, ds⟩, hcs, _⟩ := bind_inv hd; obtain ⟨e, he, _⟩ := vecO_inv hcs; exact lt he
    · cases hd
  | iad sz x i =>
    obtain ⟨hc, _⟩ := ret_inv h
    obtain ⟨j, hj, hc1⟩ := bind_inv hc
    obtain ⟨v, hv, hd⟩ := bind_inv hc1
    simp only [CI.use, hv, Option.bind_some] at hu
    cases v with
    | vec id' m sz' =>
      cases hu
      obtain ⟨⟨sz2, ds⟩, hcs, _⟩ := bind_inv hd; obtain ⟨e, he, _⟩ := vecO_inv hcs; exact lt he
    | vwn id' N m n sz' =>
      cases hu
      obtain ⟨⟨sz2, ds⟩, hcs, _⟩ := bind_inv hd; obtain ⟨e, he, _⟩ := vecO_inv hcs; exact lt he
    | _ => cases hu
  | slc sz x lo hi =>
    obtain ⟨hc, _⟩ := ret_inv h
    obtain ⟨v, hv, hc1⟩ := bind_inv hc
    obtain ⟨l, hl, hc2⟩ := bind_inv hc1
    obtain ⟨m, hm, hd⟩ := bind_inv hc2
    simp only [CI.use, hv, Option.bind_some] at hu
    cases v with
    | vec id' m sz' =>
      cases hu
      obtain ⟨⟨sz2, ds⟩, hcs, _⟩ := bind_inv hd; obtain ⟨e, he, _⟩ := vecO_inv hcs; exact lt he
    | vwn id' N m n sz' =>
      cases hu
      obtain ⟨⟨sz2, ds⟩, hcs, _⟩ := bind_inv hd; obtain ⟨e, he, _⟩ := vecO_inv hcs; exact lt he
    | _ => cases hu
  | len kd x =>
    obtain ⟨hc, _⟩ := ret_inv h
    obtain ⟨v, hv, hd⟩ := bind_inv hc
    by_cases hk : kd = 2
    · subst hk
      simp only [CI.use, hv, Option.bind_some, if_true] at hu
      have ho : objOf s v = s[id]? := by unfold objOf; rw [hu]; rfl
      obtain ⟨n, hn, _⟩ := map_inv hd
      rw [ho] at hn
      cases v with
      | mp id' => obtain ⟨ag, es, hes, _⟩ := mapN_inv (show mapN s[id]? = some n from hn); exact lt hes
      | d x => cases hu
      | _ => simp [rdLen] at hn
    · simp [CI.use, hk] at hu
  | b2s x =>
    obtain ⟨hc, _⟩ := ret_inv h
    obtain ⟨v, hv, hd⟩ := bind_inv hc
    simp only [CI.use, hv, Option.bind_some] at hu
    have ho : objOf s v = s[id]? := by unfold objOf; rw [hu]; rfl
    obtain ⟨b, hb, _⟩ := map_inv hd
    rw [ho] at hb
    unfold rdB2s at hb
    split at hb
    · split at hb
      · obtain ⟨cs, hcs, _⟩ := bind_inv hb; exact lt (cellsO_inv hcs)
      · cases hb
    · split at hb
      · obtain ⟨⟨sz, ds⟩, hcs, _⟩ := bind_inv hb; obtain ⟨e, he, _⟩ := vecO_inv hcs; exact lt he
      · cases hb
    · obtain ⟨rows, hr, _⟩ := bind_inv hb
      have := slA_toL hr
      cases v <;> simp [AV.hdl] at hu <;> simp [AV.toL] at this
  | lkp ag ks z ok m k =>
    obtain ⟨hc, _⟩ := ret_inv h
    obtain ⟨key, hkey, hc1⟩ := bind_inv hc
    obtain ⟨v, hv, hd⟩ := bind_inv hc1
    simp only [CI.use, hv, Option.bind_some] at hu
    have ho : objOf s v = s[id]? := by unfold objOf; rw [hu]; rfl
    rw [ho] at hd
    unfold rdLkp at hd
    split at hd
    · obtain ⟨es, hes, _⟩ := bind_inv hd; exact lt (mapO_inv hes)
    · cases hu
    · cases hd
  | _ => cases hu

theorem setAt_set (id : Nat) (s : List AObj) (x : AObj) : SetAt id s (s.set id x) := ⟨by simp, fun j hj => by rw [List.getElem?_set_ne (Ne.symm hj)]⟩
/-- What writes one block leaves the others. -/
theorem sem_set {ci : CI} (h : ci.sem fr s = some (d, s')) {id : Nat} (hw : ci.wr fr = some id) : SetAt id s s' := by
  cases ci with
  | clr sz z x =>
    obtain ⟨p, hp, h1⟩ := bind_inv (show (x.ev fr).bind (semClr s sz z) = some (d, s') from h)
    simp only [CI.wr, hp, Option.bind_some] at hw
    unfold semClr at h1
    split at h1
    · cases hw
      obtain ⟨_, _, h2⟩ := bind_inv h1
      split at h2
      · cases h2; exact setAt_set ..
      · cases h2
    · cases h1
  | st n x v =>
    obtain ⟨p, hp, h1⟩ := bind_inv (show ((x.ev fr).bind fun p => ((v.ev fr).bind AV.cells).bind fun vs => semSt s n vs p) = some (d, s') from h)
    obtain ⟨vs, _, h2⟩ := bind_inv h1
    simp only [CI.wr, hp, Option.bind_some] at hw
    unfold semSt at h2
    split at h2
    · cases hw
      obtain ⟨cs, _, h3⟩ := bind_inv h2
      unfold putCells at h3
      split at h3
      · cases h3; exact setAt_set ..
      · cases h3
    · cases hw
      obtain ⟨cs, _, h3⟩ := bind_inv h2
      unfold putVec at h3
      split at h3
      · cases h3; exact setAt_set ..
      · cases h3
    · cases h2
  | app mu e sz b x y =>
    obtain ⟨p, hp, h1⟩ := bind_inv (show ((x.ev fr).bind fun v => (y.ev fr).bind fun u => semApp s mu e sz b u v) = some (d, s') from h)
    obtain ⟨u, _, h2⟩ := bind_inv h1
    simp only [CI.wr, hp, Option.bind_some] at hw
    unfold semApp at h2
    split at h2
    · cases hw
      obtain ⟨us, _, h3⟩ := bind_inv h2
      obtain ⟨p, _, h4⟩ := bind_inv h3
      split at h4
      · cases h4; exact setAt_set ..
      · cases h4
    · cases hw
    · cases hw
    · cases hw
      obtain ⟨news, _, h3⟩ := bind_inv h2
      split at h3
      · cases h3; exact setAt_set ..
      · cases h3
    · cases hw
      obtain ⟨us, _, h3⟩ := bind_inv h2
      obtain ⟨p, _, h4⟩ := bind_inv h3
      split at h4
      · have h5 := Option.some.inj h4
        split at h5
        · cases h5; exact setAt_set ..
        · cases h5; exact setAt_set ..
      · cases h4
    · cases h2
  | mup ag ks m k v =>
    obtain ⟨key, _, h1⟩ := bind_inv (show (((k.ev fr).bind (AV.keyK ag ks)).bind fun key => (v.ev fr).bind fun u => (m.ev fr).bind fun p => semMup ag ks s key u p) = some (d, s') from h)
    obtain ⟨u, _, h2⟩ := bind_inv h1
    obtain ⟨p, hp, h3⟩ := bind_inv h2
    simp only [CI.wr, hp, Option.bind_some] at hw
    unfold semMup at h3
    split at h3
    · cases hw
      obtain ⟨es, _, h4⟩ := bind_inv h3
      obtain ⟨r, _, he⟩ := map_inv h4
      cases he; exact setAt_set ..
    · cases h3
  | men ag ks z m k =>
    obtain ⟨key, _, h1⟩ := bind_inv (show (((k.ev fr).bind (AV.keyK ag ks)).bind fun key => (m.ev fr).bind fun p => semMen ag ks s key z p) = some (d, s') from h)
    obtain ⟨p, hp, h3⟩ := bind_inv h1
    simp only [CI.wr, hp, Option.bind_some] at hw
    unfold semMen at h3
    split at h3
    · cases hw
      obtain ⟨es, _, h4⟩ := bind_inv h3
      obtain ⟨r, _, he⟩ := map_inv h4
      split at he <;> (cases he; exact setAt_set ..)
    · cases h3
  | mst m i v =>
    obtain ⟨j, _, h1⟩ := bind_inv (show (((i.ev fr).bind AV.int?).bind fun j => (v.ev fr).bind fun u => (m.ev fr).bind fun p => semMst s j u p) = some (d, s') from h)
    obtain ⟨u, _, h2⟩ := bind_inv h1
    obtain ⟨p, hp, h3⟩ := bind_inv h2
    simp only [CI.wr, hp, Option.bind_some] at hw
    unfold semMst at h3
    split at h3
    · cases hw
      obtain ⟨q, _, h4⟩ := bind_inv h3
      split at h4
      · obtain ⟨r, _, he⟩ := map_inv h4
        cases he; exact setAt_set ..
      · cases h4
    · cases h3
  | _ => cases hw
end
end Go.Bb

set_option linter.unusedVariables false
namespace Go.Bb
open Go Go.RowKit Go.Ab Go.Proofs.Lg

def gdC (fr : Fr) : Option (Option Nat × Bool) → Option Bool
  | none => some true
  | some (none, _) => some false
  | some (some t, want) => match look fr t with
    | some (.d (.sc (.bool b))) => some (b == want)
    | some (.d (.sc (.tuple _))) => some false
    | _ => none
/-- What is not known as an instruction: it must never be come to. -/
def compB (P : Program) (mus : List Nat) (o : Oper) : Option CI := match compOp P mus o with
  | some ci => some ci
  | none => if notDefer o then some .bad else none
def compO (P : Program) (mus : List Nat) (ops : Array Oper) (o : Oper) : Option CO :=
  match compB P mus o with
  | some ci => some ⟨o.dst, match o.guard with
    | none => none
    | some (j, want) => some ((ops[j]?).bind (·.dst), want), ci⟩
  | none => none
def compL (P : Program) (mus : List Nat) (ops : Array Oper) : List Oper → Option (List CO)
  | [] => some []
  | o :: l => match compO P mus ops o, compL P mus ops l with
    | some c, some cs => some (c :: cs)
    | _, _ => none

def comp (P : Program) (mus : List Nat) (N : Nat) : Code → Option CC
  | .skip => some .skip
  | .label _ => some .skip
  | .region _ ops dr => if ops.all (fun o => match o.dst with | some d => decide (d < N) | none => true) && (!dr || (P.follows .mixedOrders && ordB ops [])) then
      (compL P mus ops ops.toList).map fun l => .ops dr (if dr then (Region.before ops).toList else []) l else none
  | .seq a b => match comp P mus N a, comp P mus N b with
    | some a, some b => some (.seq a b)
    | _, _ => none
  | .cond c a b => match cX P 0 c, comp P mus N a, comp P mus N b with
    | some c, some a, some b => some (.cond c a b)
    | _, _, _ => none
  | .block id c => (comp P mus N c).map (.block id)
  | .loop c => (comp P mus N c).map .loop
  | .exit id => some (.exit id)
  | .ret => some .ret
  | .rangeFunc f ps a b => match cX P 0 f, comp P mus N a, comp P mus N b with
    | some f, some a, some b => if ps.all (fun t => decide (t < N)) then some (.rng N f ps.toList a b) else none
    | _, _, _ => none
  | _ => none

/-- This code, as data. -/
def CC.erase : CC → CC
  | .trim _ c => c.erase
  | .seq a b => .seq a.erase b.erase
  | .cond x a b => .cond x a.erase b.erase
  | .block id c => .block id c.erase
  | .loop c => .loop c.erase
  | .rng n f ps a b => .rng n f ps a.erase b.erase
  | .skip => .skip
  | .ops dr bf l => .ops dr bf l
  | .exit id => .exit id
  | .ret => .ret
def LLc (P : Program) : Nat → Code → CC → Prop := fun N c cc => ∃ mus, comp P mus N c = some cc.erase

section
variable {P : Program} {N : Nat} {rd : Option Nat}

def RunsC (P : Program) (N : Nat) (rd : Option Nat) (cc : CC) (fr : Fr) (s : List AObj) (e : Exit) (fr' : Fr) (s' : List AObj) : Prop :=
  ∀ c, LLc P N c cc → Runs (LLc P) P N rd c fr s e fr' s'
def AC (P : Program) (N : Nat) (rd : Option Nat) (cc : CC) (Q : Exit → Fr → List AObj → Prop) (fr : Fr) (s : List AObj) : Prop :=
  ∃ e fr' s', Q e fr' s' ∧ RunsC P N rd cc fr s e fr' s'

/-! ### Calls -/

/-- A function as data: called with these data it returns that, and leaves the memory as it was, but for new blocks. -/
structure AFn (P : Program) (f : FuncId) (args : List D) (r : D) : Prop where
  enters : Enters P f
  calls : ∀ (I : Nat → Nat) (w : World) (vs : List Value), vs.length = args.length → (∀ (i : Nat) (v : Value) (d : D), vs[i]? = some v → args[i]? = some d → RD I w v d) →
    Calls P f vs.toArray w fun e w' => ∃ v, e = .returned v ∧ RD (bigI I w.heap.size w') w' v r ∧ Below w.heap.size w w'

def toDs : List AV → Option (List D)
  | [] => some []
  | x :: l => x.toD.bind fun d => (toDs l).map (d :: ·)
theorem toDs_get : ∀ {xs : List AV} {ds : List D}, toDs xs = some ds → ds.length = xs.length ∧ ∀ (i : Nat) (d : D), ds[i]? = some d → ∃ x, xs[i]? = some x ∧ x.toD = some d
  | [], ds, h => by simp [toDs] at h; subst h; simp
  | x :: xs, ds, h => by
    obtain ⟨d, hd, h1⟩ := bind_inv (show (x.toD.bind fun d => (toDs xs).map (d :: ·)) = some ds from h)
    obtain ⟨ds', h2, rfl⟩ := map_inv h1
    obtain ⟨k1, k2⟩ := toDs_get h2
    refine ⟨by simp [k1], fun i y hy => ?_⟩
    cases i with
    | zero => simp at hy; subst hy; exact ⟨x, rfl, hd⟩
    | succ i => exact k2 i y (by simpa using hy)

theorem AFn.runs {LL : Nat → Code → CC → Prop} {f : FuncId} {ds : List D} {r : D} (h : AFn P f ds r) {xs : List AV} (hx : toDs xs = some ds) (s : List AObj) : FnRuns LL P f xs s (.d r) s := by
  refine ⟨h.enters, fun B k w vs hst hvs => ?_⟩
  obtain ⟨l1, l2⟩ := toDs_get hx
  refine Calls.mono (h.calls k.I w vs (by rw [hvs.1, l1]) fun i v d hv hd => ?_) ?_
  · obtain ⟨x, h1, h2⟩ := l2 i d hd
    exact (hvs.2 i v x hv h1).toD h2
  · rintro e w' ⟨v, rfl, hv, hb⟩
    exact ⟨v, ⟨bigI k.I w.heap.size w', k.own⟩, rfl, .d hv, Ext.called hst.base hb, hst.called hb⟩

def calleeA (fr : Fr) : Callee' → Option AV
  | .fn f => some (.clo f [] [])
  | .val x => x.ev fr
def dataCall : AV → List AV → Option (FuncId × List D)
  | .clo f fs cs, vs => (toDs (fs ++ vs ++ cs)).map fun ds => (f, ds)
  | _, _ => none

/-- A call that is still to be met: on data; with a run of its own; with one that only reads. -/
def CallM (P : Program) (cv : AV) (vs : List AV) (s : List AObj) (K : AV → List AObj → Nat → Prop) : Prop :=
  (∃ d, (∀ s2, CalRuns (LLc P) P cv vs s2 d s2) ∧ K d s 0) ∨ (∃ d s', CalRuns (LLc P) P cv vs s d s' ∧ K d s' 2) ∨ (∃ d, (∀ s2, Agrees s s2 → CalRuns (LLc P) P cv vs s2 d s2) ∧ K d s 1) ∨ (∃ d xs, (∀ s2, Agrees s s2 → Holes s2 s.length xs.length → CalRuns (LLc P) P cv vs s2 d (fill s2 s.length xs)) ∧ K d (s ++ xs) 3) ∨ (∃ d s' id, CalRuns (LLc P) P cv vs s d s' ∧ SetAt id s s' ∧ K d s' (5 + 2 * id))
theorem CallM.mono {cv : AV} {vs : List AV} {s : List AObj} {K K' : AV → List AObj → Nat → Prop} (h : CallM P cv vs s K) (hk : ∀ d s fl, K d s fl → K' d s fl) : CallM P cv vs s K' := by
  rcases h with ⟨d, h1, h2⟩ | ⟨d, s', h1, h2⟩ | ⟨d, h1, h2⟩ | ⟨d, xs, h1, h2⟩ | ⟨d, s', id, h1, h2, h3⟩
  · exact .inl ⟨d, h1, hk _ _ _ h2⟩
  · exact .inr (.inl ⟨d, s', h1, hk _ _ _ h2⟩)
  · exact .inr (.inr (.inl ⟨d, h1, hk _ _ _ h2⟩))
  · exact .inr (.inr (.inr (.inl ⟨d, xs, h1, hk _ _ _ h2⟩)))
  · exact .inr (.inr (.inr (.inr ⟨d, s', id, h1, h2, hk _ _ _ h3⟩)))
/-- Met by a function as data. -/
theorem CallM.data {f : FuncId} {fs cs vs : List AV} {s : List AObj} {K : AV → List AObj → Nat → Prop} {ds : List D} {r : D} (h : AFn P f ds r) (hd : toDs (fs ++ vs ++ cs) = some ds) (hk : K (.d r) s 0) : CallM P (.clo f fs cs) vs s K :=
  .inl ⟨_, fun s2 => h.runs hd s2, hk⟩
theorem CallM.run {cv : AV} {vs : List AV} {s : List AObj} {K : AV → List AObj → Nat → Prop} {d : AV} {s' : List AObj} (h : CalRuns (LLc P) P cv vs s d s') (hk : K d s' 2) : CallM P cv vs s K := .inr (.inl ⟨d, s', h, hk⟩)

theorem cal_fn {fr : Fr} {c : Callee'} {cv : AV} (hc : calleeA fr c = some cv) {o : Oper} {p : Operand} (hp : (∃ f, c = .fn f ∧ p = .func f) ∨ (∃ x, c = .val x ∧ cX P 0 p = some x ∧ p ∈ o.op.operands)) {k : Cfg} {w : World} {a : Act} (hops : Ops k w a o fr) : RA k w (a.eval p) cv := by
  rcases hp with ⟨f, rfl, rfl⟩ | ⟨x, rfl, hx, hmem⟩
  · obtain rfl := Option.some.inj hc
    exact .clo (us := []) (vs := []) rfl rfl (by simp) (by simp)
  · exact ev_ok hops hmem hx hc

theorem compRow_form {fz mu : Bool} {t : TypeId} {n : Nat} {parts : List (Nat × Operand)} {ci : CI} (h : compRow P fz mu t n parts = some ci) : (∃ a b c d, ci = .bsf a b c d) ∨ (∃ a b c d e f, ci = .bsl a b c d e f) := by
  unfold compRow at h
  split at h
  · split at h
    · split at h
      · split at h
        · obtain ⟨qs, _, he⟩ := Option.map_eq_some_iff.1 h
          cases fz with
          | true => exact .inl ⟨_, _, _, _, he.symm⟩
          | false => exact .inr ⟨_, _, _, _, _, _, he.symm⟩
        · cases h
      · cases h
    · cases h
  · cases h

theorem compOp_call {mus : List Nat} {o : Oper} {c : Callee'} {xs : List X} (h : compOp P mus o = some (.call c xs)) :
    ∃ p ps ts, o.op = .call { callee := .value p, args := ps, argTypes := ts } ∧ cXs P ts.toList ps.toList = some xs ∧ ((∃ f, c = .fn f ∧ p = .func f) ∨ (∃ x, c = .val x ∧ cX P 0 p = some x ∧ p ∈ o.op.operands)) := by
  unfold compOp at h
  split at h
  all_goals first
    | (rename_i c' ho
       obtain ⟨callee, args, tys⟩ := c'
       unfold compCall at h
       dsimp only at h
       split at h
       · unfold compLen at h
         (repeat' split at h) <;> first | (cases h; done) | (injection h with h; cases h)
       · unfold compApp at h
         (repeat' split at h) <;> first | (cases h; done) | (injection h with h; cases h)
       · unfold compClr at h
         (repeat' split at h) <;> first | (cases h; done) | (injection h with h; cases h)
       · unfold compMM at h
         (repeat' split at h) <;> first | (cases h; done) | (injection h with h; cases h)
       · unfold compMM at h
         (repeat' split at h) <;> first | (cases h; done) | (injection h with h; cases h)
       · rename_i g
         obtain ⟨y, hy, he⟩ := Option.map_eq_some_iff.1 h
         injection he with e1 e2
         subst e1; subst e2
         exact ⟨.func g, args, tys, ho, hy, .inl ⟨g, rfl, rfl⟩⟩
       · rename_i p _
         split at h
         · rename_i x ys h1 h2
           injection h with h
           injection h with e1 e2
           subst e1; subst e2
           exact ⟨p, args, tys, ho, h2, .inr ⟨x, rfl, h1, by rw [ho]; simp [Op.operands, Call.operands]⟩⟩
         · cases h
       · cases h)
    | (exfalso; obtain ⟨y, hy, he⟩ := Option.map_eq_some_iff.1 h; first | (cases he; done) | (split at he <;> (cases he; done)))
    | (exfalso; unfold compBuild at h; (repeat' split at h) <;> first | (cases h; done) | (obtain ⟨qs, _, he⟩ := Option.map_eq_some_iff.1 h; cases he; done))
    | (exfalso; have hr := compRow_form h; rcases hr with ⟨_, _, _, _, he⟩ | ⟨_, _, _, _, _, _, he⟩ <;> (cases he; done))
    | (exfalso; unfold compMks at h; (repeat' split at h) <;> first | (cases h; done) | (injection h with h; cases h; done))
    | (exfalso; unfold compBin at h; (repeat' split at h) <;> first | (cases h; done) | (injection h with h; cases h; done))
    | (exfalso; unfold compIad at h; (repeat' split at h) <;> first | (cases h; done) | (injection h with h; cases h; done))
    | (exfalso; unfold compIndex at h; (repeat' split at h) <;> first | (cases h; done) | (injection h with h; cases h; done))
    | (exfalso; unfold compSlice at h; (repeat' split at h) <;> first | (cases h; done) | (injection h with h; cases h; done))
    | (exfalso; unfold compConvert at h; (repeat' split at h) <;> first | (cases h; done) | (injection h with h; cases h; done) | (injection h with h; split at h <;> (cases h; done)))
    | (exfalso; unfold compLookup at h; (repeat' split at h) <;> first | (cases h; done) | (injection h with h; cases h; done))
    | (exfalso; unfold compMup at h; (repeat' split at h) <;> first | (cases h; done) | (injection h with h; cases h; done))
    | (exfalso; unfold compMen at h; (repeat' split at h) <;> first | (cases h; done) | (injection h with h; cases h; done))
    | (exfalso; unfold compMst at h; (repeat' split at h) <;> first | (cases h; done) | (injection h with h; cases h; done))
    | (exfalso; (repeat' split at h) <;> first | (cases h; done) | (obtain ⟨qs, _, he⟩ := Option.map_eq_some_iff.1 h; first | (cases he; done) | (split at he <;> (cases he; done))) | (injection h with h; cases h))

/-- A call does what its run says. -/
theorem ok_call {LL : Nat → Code → CC → Prop} {o : Oper} {fr : Fr} {s s' : List AObj} {d : AV} {p : Operand} {ps : Array Operand} {ts : Array TypeId} {xs : List X} {cv : AV} {vs : List AV} (ho : o.op = .call { callee := .value p, args := ps, argTypes := ts })
    (hc : ∀ (k : Cfg) (w : World) (a : Act), Ops k w a o fr → RA k w (a.eval p) cv) (hx : cXs P ts.toList ps.toList = some xs) (hv : evA fr xs = some vs) (h : CalRuns LL P cv vs s d s') : AOp LL P o fr s d s' := by
  intro B k a w hops hst hnd r QQ
  refine ⟨fun f _ => FW_fn r f, ?_⟩
  rw [FW_round, semAt_plain hnd]
  have hargs : RVs k w (ps.toList.map a.eval) vs := evs_ok hops hx (fun q hq => by rw [ho]; simp only [Op.operands, Call.operands]; simp at hq ⊢; exact .inr hq) hv
  have hcv := hc k w a hops
  have harr : ps.map a.eval = (ps.toList.map a.eval).toArray := by apply Array.ext'; simp
  have hdep : (FW r).depth.isSome = true → 1 ≤ 0 := fun h => by rw [FW_depth] at h; cases h
  cases cv with
  | clo f fs cs =>
    obtain ⟨us, ws, he, h1, h2⟩ := hcv.clo_inv
    have hrun : (execOp a.eval o).run P w = .ok (.enter f (us ++ ps.toList.map a.eval ++ ws).toArray) w := by
      unfold execOp; rw [ho]
      simp only [resolve, he, Deferred.ofValue, Sem.run_bind, Sem.run_pure, Result.andThen_ok, invoke]
      have : us.toArray ++ Array.map a.eval ps ++ ws.toArray = (us ++ ps.toList.map a.eval ++ ws).toArray := by rw [harr]; simp
      rw [this]
      exact h.enters _ w
    rw [hrun, Oper.uponIn_enter]
    refine ⟨hdep, callsIn_FW (Calls.mono (h.calls B k w _ hst ((h1.append hargs).append h2)) ?_)⟩
    rintro e w' ⟨v, k', rfl, q1, q2, q3⟩
    exact ⟨v, rfl, k', q1, q2, q3⟩
  | yld id =>
    obtain ⟨b, hb, he⟩ := hcv.yld_inv
    obtain ⟨fn, tmps, assign, body, hy, hround⟩ := h B k w _ b hst hargs hb
    have hrun : (execOp a.eval o).run P w = .ok (.round b fn tmps assign body) w := by
      unfold execOp; rw [ho]
      simp only [resolve, he, Deferred.ofValue, Sem.run_bind, Sem.run_pure, Result.andThen_ok, invoke, Array.empty_append]
      rw [harr]; exact hy
    rw [hrun, Oper.uponIn_round]
    refine ⟨hdep, roundIn_FW (RoundIn.mono hround ?_)⟩
    rintro e w' ⟨v, k', rfl, q1, q2, q3⟩
    exact ⟨v, rfl, k', q1, q2, q3⟩
  | _ => exact h.elim

/-! ### Lists of instructions -/

/-- Either way: what is to hold if b is false, and if it is true. -/
def Both (b : Bool) (x y : Prop) : Prop := (b = false → x) ∧ (b = true → y)
theorem Both_true (x y : Prop) : Both true x y = y := by simp [Both]
theorem Both_false (x y : Prop) : Both false x y = x := by simp [Both]
@[congr] theorem Both_congr (b b' : Bool) (x y : Prop) (h : b = b') : Both b x y = Both b' x y := by rw [h]

/-- The walk of a list of instructions. -/
def wpC (P : Program) : List CO → (Fr → List AObj → List Nat → Prop) → List Nat → Fr → List AObj → Prop
  | [], K, acc, fr, s => K fr s acc.reverse
  | o :: l, K, acc, fr, s => match gdC fr o.g with
    | none => False
    | some b => Both b (wpC P l K (0 :: acc) (putF fr o.dst undefA) s) (match o.ci with
      | .call c xs => match calleeA fr c, evA fr xs with
        | some cv, some vs => CallM P cv vs s fun d s' fl => wpC P l K (fl :: acc) (putF fr o.dst d) s'
        | _, _ => False
      | ci => match ci.sem fr s with
        | some (d, s') => wpC P l K (ci.mark fr :: acc) (putF fr o.dst d) s'
        | none => False)

theorem gdC_gd {mus : List Nat} {ops : Array Oper} {o : Oper} {c : CO} (h : compO P mus ops o = some c) (fr : Fr) : gdC fr c.g = gd ops fr o := by
  unfold compO at h
  split at h
  · obtain rfl := Option.some.inj h
    unfold gd gdC
    cases hg : o.guard with
    | none => rfl
    | some jw =>
      obtain ⟨j, want⟩ := jw
      dsimp only
      cases hd : (ops[j]?).bind (·.dst) with
      | none => rfl
      | some t => rfl
  · cases h
theorem compO_inv {mus : List Nat} {ops : Array Oper} {o : Oper} {c : CO} (h : compO P mus ops o = some c) : (compOp P mus o = some c.ci ∨ (c.ci = .bad ∧ notDefer o = true)) ∧ c.dst = o.dst := by
  unfold compO at h
  split at h
  · rename_i ci hc
    obtain rfl := Option.some.inj h
    refine ⟨?_, rfl⟩
    unfold compB at hc
    split at hc
    · rename_i ci' hc'; obtain rfl := Option.some.inj hc; exact .inl hc'
    · split at hc
      · rename_i hn; obtain rfl := Option.some.inj hc; exact .inr ⟨rfl, hn⟩
      · cases hc
  · cases h
theorem compL_cons {mus : List Nat} {ops : Array Oper} {l : List Oper} {c : CO} {cs : List CO} (h : compL P mus ops l = some (c :: cs)) : ∃ o l', l = o :: l' ∧ compO P mus ops o = some c ∧ compL P mus ops l' = some cs := by
  cases l with
  | nil => simp [compL] at h
  | cons o l' =>
    unfold compL at h
    split at h
    · rename_i c' cs' h1 h2
      cases h
      exact ⟨o, l', rfl, h1, h2⟩
    · cases h
theorem compL_nil {mus : List Nat} {ops : Array Oper} {l : List Oper} (h : compL P mus ops l = some []) : l = [] := by
  cases l with
  | nil => rfl
  | cons o l' =>
    unfold compL at h
    split at h
    · cases h
    · cases h

theorem RA.hdl_lt {k : Cfg} {w : World} {u : Value} {v : AV} {id : Nat} (h : RA k w u v) (hv : v.hdl = some id) : id < k.own.length := by
  have lt : ∀ {o : Own}, k.own[id]? = some o → id < k.own.length := fun h => (List.getElem?_eq_some_iff.1 h).1
  cases h with
  | ptr h => cases hv; exact lt h
  | vec h1 h2 => cases hv; obtain ⟨u, n, h3, _⟩ := h2; exact lt h3
  | vptr h => cases hv; obtain ⟨u, n, h3, _⟩ := h; exact lt h3
  | win h1 h2 h3 => cases hv; exact lt h1
  | vwn h1 h2 => cases hv; obtain ⟨u, n, h3, _⟩ := h2; exact lt h3
  | mp h => cases hv; exact lt h
  | _ => cases hv

theorem vecId_hdl {v : AV} {id : Nat} (h : v.vecId = some id) : v.hdl = some id := by
  cases v <;> first | exact h | cases h

/-- The slot that leads to the block which is read. -/
theorem use_slot {mus : List Nat} {o : Oper} {ci : CI} (h : compOp P mus o = some ci) {fr : Fr} {id : Nat} (hu : ci.use fr = some id) : ∃ p t x v, p ∈ o.op.operands ∧ cX P t p = some x ∧ x.ev fr = some v ∧ v.hdl = some id := by
  have no : ∀ {ci' : CI}, ci' = ci → ci'.use fr = none → False := fun e hn => by rw [e, hu] at hn; cases hn
  unfold compOp at h
  split at h
  case h_4 =>
    rename_i t x ho
    split at h
    · rename_i n x' h1 h2
      obtain rfl := Option.some.inj h
      obtain ⟨v, hv, hid⟩ := bind_inv (show (x'.ev fr).bind AV.hdl = some id from hu)
      exact ⟨x, 0, x', v, by rw [ho]; simp [Op.operands], h2, hv, hid⟩
    · cases h
  case h_7 =>
    rename_i t x i ho
    unfold compIad at h
    split at h
    · rename_i e x' y h1 h2 h3
      split at h
      · obtain rfl := Option.some.inj h
        obtain ⟨v, hv, hid⟩ := bind_inv (show (x'.ev fr).bind AV.vecId = some id from hu)
        exact ⟨x, 0, x', v, by rw [ho]; simp [Op.operands], h2, hv, vecId_hdl hid⟩
      · cases h
    · split at h
      · obtain rfl := Option.some.inj h; cases hu
      · cases h
    · cases h
  all_goals first
    | (rename_i t x lo hi mx ho
       unfold compSlice at h
       split at h
       · rename_i e x' l h2 h3 h4 h5 h6
         split at h
         · obtain rfl := Option.some.inj h
           obtain ⟨v, hv, hid⟩ := bind_inv (show (x'.ev fr).bind AV.vecId = some id from hu)
           exact ⟨x, 0, x', v, by rw [ho]; simp [Op.operands], h4, hv, vecId_hdl hid⟩
         · exfalso; split at h
           · injection h with h; exact no h rfl
           · cases h
         · cases h
       all_goals (exfalso; (repeat' split at h) <;> first | (cases h; done) | (injection h with h; exact no h rfl)))
    | (rename_i t m k ok ho
       unfold compLookup at h
       split at h
       · split at h
         · rename_i m' k' ks z h1 h2 h3 h4
           obtain rfl := Option.some.inj h
           obtain ⟨v, hv, hid⟩ := bind_inv (show (m'.ev fr).bind AV.hdl = some id from hu)
           exact ⟨m, t, m', v, by rw [ho]; simp [Op.operands], h1, hv, hid⟩
         · cases h
       · cases h)
    | (rename_i c ho
       obtain ⟨callee, args, tys⟩ := c
       obtain ⟨args⟩ := args
       obtain ⟨tys⟩ := tys
       unfold compCall at h
       dsimp only at h
       split at h
       · unfold compLen at h
         split at h
         · split at h
           · obtain rfl := Option.some.inj h; simp [CI.use] at hu
           · obtain rfl := Option.some.inj h; simp [CI.use] at hu
           · rename_i p t hx1 hx2 k e x' h1 h2
             obtain rfl := Option.some.inj h
             obtain ⟨v, hv, hid⟩ := bind_inv (show (x'.ev fr).bind AV.hdl = some id from hu)
             exact ⟨p, t, x', v, by rw [ho]; simp [Op.operands, Call.operands], h2, hv, hid⟩
           · cases h
         · cases h
       · exfalso; unfold compApp at h
         (repeat' split at h) <;> first | (cases h; done) | (injection h with h; exact no h rfl)
       · exfalso; unfold compClr at h
         (repeat' split at h) <;> first | (cases h; done) | (injection h with h; exact no h rfl)
       · exfalso; unfold compMM at h
         (repeat' split at h) <;> first | (cases h; done) | (injection h with h; exact no h rfl)
       · exfalso; unfold compMM at h
         (repeat' split at h) <;> first | (cases h; done) | (injection h with h; exact no h rfl)
       · exfalso; obtain ⟨y, hy, he⟩ := Option.map_eq_some_iff.1 h; exact no he rfl
       · exfalso; split at h
         · injection h with h; exact no h rfl
         · cases h
       · cases h)
    | (rename_i src dst x ho
       unfold compConvert at h
       split at h
       · exfalso; injection h with h; exact no h rfl
       · exfalso; split at h
         · injection h with h
           split at h <;> exact no h rfl
         · cases h
       · rename_i e x' h1 h2 h3
         split at h
         · obtain rfl := Option.some.inj h
           obtain ⟨v, hv, hid⟩ := bind_inv (show (x'.ev fr).bind AV.hdl = some id from hu)
           exact ⟨x, src, x', v, by rw [ho]; simp [Op.operands], h3, hv, hid⟩
         · cases h
       · cases h)
    | (exfalso; obtain ⟨y, hy, he⟩ := Option.map_eq_some_iff.1 h; first | exact no he rfl | (split at he <;> exact no he rfl))
    | (exfalso; unfold compBuild at h; (repeat' split at h) <;> first | (cases h; done) | (obtain ⟨qs, _, he⟩ := Option.map_eq_some_iff.1 h; exact no he rfl))
    | (exfalso; have hr := compRow_form h; rcases hr with ⟨_, _, _, _, he⟩ | ⟨_, _, _, _, _, _, he⟩ <;> exact no he.symm rfl)
    | (exfalso; unfold compMks at h; (repeat' split at h) <;> first | (cases h; done) | (injection h with h; exact no h rfl))
    | (exfalso; unfold compBin at h; (repeat' split at h) <;> first | (cases h; done) | (injection h with h; exact no h rfl))
    | (exfalso; unfold compIndex at h; (repeat' split at h) <;> first | (cases h; done) | (injection h with h; exact no h rfl))
    | (exfalso; unfold compSlice at h; (repeat' split at h) <;> first | (cases h; done) | (injection h with h; exact no h rfl))
    | (exfalso; unfold compConvert at h; (repeat' split at h) <;> first | (cases h; done) | (injection h with h; exact no h rfl))
    | (exfalso; unfold compMup at h; (repeat' split at h) <;> first | (cases h; done) | (injection h with h; exact no h rfl))
    | (exfalso; unfold compMen at h; (repeat' split at h) <;> first | (cases h; done) | (injection h with h; exact no h rfl))
    | (exfalso; unfold compMst at h; (repeat' split at h) <;> first | (cases h; done) | (injection h with h; exact no h rfl))
    | (exfalso; (repeat' split at h) <;> first | (cases h; done) | (obtain ⟨qs, _, he⟩ := Option.map_eq_some_iff.1 h; exact no he rfl) | (injection h with h; exact no h rfl))

theorem op_readsAt {LL : Nat → Code → CC → Prop} {mus : List Nat} {o : Oper} {ci : CI} (hc : compOp P mus o = some ci) {fr : Fr} {s : List AObj} {d : AV} (h : ci.sem fr s = some (d, s)) (ht : ci.touch fr = 1) {id : Nat} (hus : ci.use fr = some id) (s2 : List AObj) (ha : AgreesAt id s s2) : AOp LL P o fr s2 d s2 := by
  have hlt := use_there h hus
  intro B k a w hops hst
  obtain ⟨p, t, x, v, h3, h4, h5, h6⟩ := use_slot hc hus
  obtain ⟨n1, n2⟩ := (ev_ok hops h3 h4 h5).no_hole hst h6
  rcases ha hlt n1 with e | e
  · exact compOp_ok hc (sem_local h (by omega) fun id' hid' => by rw [hus] at hid'; cases hid'; exact e) B k a w hops hst
  · exact absurd e n2
end
end Go.Bb
