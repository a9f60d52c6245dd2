/-
  Part GAP of this claim's proof. Joined by merge.py from the texts of wip/tpl.
-/
import Derived.Laws.EntriesVeiled
import Derived.Test.YtclholnhkhjjaaaGreatW2
set_option linter.unusedVariables false
set_option linter.unusedSimpArgs false
set_option linter.unnecessarySimpa false
namespace Go.Proofs.Lg
open Go Go.RowKit Go.Shelf
def cstep (rows : List (List Bool)) (l : List Nat) (c : List (List Nat) × List Nat) (i : Nat) : List (List Nat) × List Nat :=
 if c.2.contains i then c else (c.1 ++ [arrL rows (visit rows l l.length c.2 i).1], (visit rows l l.length c.2 i).2)
def classesS (rows : List (List Bool)) (l t : List Nat) : List (List Nat) × List Nat := t.foldl (cstep rows l) ([], [])
def classesL (rows : List (List Bool)) (l : List Nat) : List (List Nat) := (classesS rows l l).1
theorem visit_pos (rows : List (List Bool)) (l : List Nat) (f : Nat) (S : List Nat) (i : Nat) : 1 ≤ (visit rows l f S i).1.length := by
 cases f with
 | zero => have := foldl_grow (rows := rows) (i := i) (G := fun S _ => ([], S)) l ([i], i :: S); simpa [visit] using this
 | succ f => have := foldl_grow (rows := rows) (i := i) (G := visit rows l f) l ([i], i :: S); simpa [visit] using this
theorem classesS_ok (rows : List (List Bool)) (l : List Nat) : ∀ (t : List Nat) (c : List (List Nat) × List Nat), (∀ j ∈ t, j ∈ l) → c.2.length + unseen l c.2 ≤ l.length → c.1.length ≤ c.2.length →
   (t.foldl (cstep rows l) c).2.length + unseen l (t.foldl (cstep rows l) c).2 ≤ l.length ∧ (t.foldl (cstep rows l) c).1.length ≤ (t.foldl (cstep rows l) c).2.length
 | [], _, _, h1, h2 => ⟨h1, h2⟩
 | j :: t, c, ht, h1, h2 => by
   have hst : (cstep rows l c j).2.length + unseen l (cstep rows l c j).2 ≤ l.length ∧ (cstep rows l c j).1.length ≤ (cstep rows l c j).2.length := by
     unfold cstep
     by_cases hc : c.2.contains j = true
     · rw [if_pos hc]; exact ⟨h1, h2⟩
     · rw [if_neg hc]
       have hv := visit_ok rows l l.length c.2 j (ht j (by simp)) (by simpa using hc)
       have := hv.len; have := hv.sum; have := visit_pos rows l l.length c.2 j
       exact ⟨by simp only; omega, by simp; omega⟩
   exact classesS_ok rows l t _ (fun x hx => ht x (by simp [hx])) hst.1 hst.2
theorem own_types_ne {w : World} {base base' e e' n n' : Nat} {v v' : Value} {xs ys : List Value} (h : w.ownsRow base e 1 v n xs) (h' : w.ownsRow base' e' 1 v' n' ys) (hne : e ≠ e') : v.ownBlock = none ∨ v.ownBlock ≠ v'.ownBlock := by
 rcases h.2 with ⟨rfl, _⟩ | ⟨g, cap, cur, rfl, _, hg, _⟩
 · exact .inl rfl
 · rcases h'.2 with ⟨rfl, _⟩ | ⟨g', cap', cur', rfl, _, hg', _⟩
   · right; simp [Value.ownBlock]
   · right
     intro e1
     obtain rfl : g = g' := by simpa [Value.ownBlock] using e1
     rw [hg] at hg'
     simp at hg'
     exact hne hg'.2
def SidesOwn (w : World) (base : Nat) (vs : List Value) (sides : List (List Nat)) : Prop :=
 vs.length = sides.length ∧ ∀ (i : Nat) (u : Value) (r : List Nat), vs[i]? = some u → sides[i]? = some r → w.ownsRow base 3 1 u r.length (ints (nats r))
theorem SidesOwn.kept {w w' : World} {base : Nat} {vs : List Value} {sides : List (List Nat)} {row : Option Nat} (h : SidesOwn w base vs sides) (hg : w.grownBy w' row) (hr : ∀ u : Value, (∃ r : List Nat, w.ownsRow base 3 1 u r.length (ints (nats r))) → u.ownBlock = none ∨ u.ownBlock ≠ row) : SidesOwn w' base vs sides :=
 ⟨h.1, fun i u r hu hr' => (h.2 i u r hu hr').kept hg (hr u ⟨r, h.2 i u r hu hr'⟩)⟩
theorem SidesOwn.snoc {w : World} {base : Nat} {vs : List Value} {sides : List (List Nat)} {u : Value} {r : List Nat} (h : SidesOwn w base vs sides) (hu : w.ownsRow base 3 1 u r.length (ints (nats r))) : SidesOwn w base (vs ++ [u]) (sides ++ [r]) := by
 refine ⟨by simp [h.1], fun i x y hx hy => ?_⟩
 by_cases hi : i < vs.length
 · rw [List.getElem?_append_left hi] at hx
   rw [List.getElem?_append_left (by rw [← h.1]; exact hi)] at hy
   exact h.2 i x y hx hy
 · have hi2 : i = vs.length := by
     have := (List.getElem?_eq_some_iff.1 hx).1
     simp at this
     omega
   subst hi2
   rw [List.getElem?_append_right (Nat.le_refl _), Nat.sub_self] at hx
   rw [h.1, List.getElem?_append_right (Nat.le_refl _), Nat.sub_self] at hy
   simp at hx hy
   subst hx hy
   exact hu
set_option maxHeartbeats 8000000 in
set_option maxRecDepth 100000 in
theorem classes_any (vl ve vr vv vt : Value) (n : Nat) (rows : List (List Bool)) (l : List Nat) (w : World) (h : SlOf w vr (rows.map bools)) (hq : Sq n rows) (hl : ∀ j ∈ l, j < n) (hn : n ≤ 1000000) (hll : l.length ≤ 1000000)
   (hsl : SlAt w vt (ints (nats l))) (hvl : ∃ a c m, vl = .slice a m c) (hve : ∃ a c m, ve = .slice a m c) (hvv : ∃ a c m, vv = .slice a m c) :
   Calls Tryz.prog 84 #[.agg #[vl, ve, vr, vv], vt] w fun e w' => ∃ (u : Value) (us : List Value), e = .returned u ∧ w'.ownsRow w.heap.size 29 1 u us.length us ∧ SidesOwn w' w.heap.size us (classesL rows l) ∧ Below w.heap.size w w' := by
 have HVA : Hid (∃ a c m, vl = .slice a m c) := hvl
 have HVE : Hid (∃ a c m, ve = .slice a m c) := hve
 have HVV : Hid (∃ a c m, vv = .slice a m c) := hvv
 obtain ⟨al, cl, ml, rfl⟩ := hvl
 obtain ⟨ae, ce, me, rfl⟩ := hve
 obtain ⟨av, cv, mv, rfl⟩ := hvv
 obtain ⟨ar, cr, mr, rfl⟩ : ∃ a c m, vr = .slice a m c := by obtain ⟨vs, ⟨a, c, h, _⟩, _⟩ := h; exact ⟨a, c, _, h⟩
 obtain ⟨a, c, rfl⟩ : ∃ a c, vt = .slice a l.length c := by obtain ⟨a, c, h, _⟩ := hsl; exact ⟨a, c, by simpa [ints, nats] using h⟩
 have HR := Lib.hid h
 have HS := Lib.hid hsl
 have HL := Lib.hid hl
 clear h hsl hl
 have hmm := @run_makeMap Tryz.prog
 go_enter Tryz.func84, Tryz.ntmps84
 go_upto_region 4 with fail
 go_cut [6] (fun s6 wx => s6 = .slice none 0 0 ∧ VEnv wx (w.heap.size + 1 + 1) (w.heap.size + 1 + 1 + 1) (w.heap.size + 1) w.heap.size (w.heap.size + 1 + 1 + 1 + 1) (.slice al ml cl) (.slice ae me ce) (.slice ar mr cr) (.slice av mv cv) (.slice a l.length c) rows l ∧ SeenAt wx (w.heap.size + 1 + 1) [] ∧ wx.heap.size = w.heap.size + 5 ∧ Below w.heap.size w wx)
 case first =>
   go_wp2_with fail
   go_meet
   have hs1 := SeenAt.made ((w.alloc (.cells #[.slice al ml cl, .slice ae me ce, .slice ar mr cr, .slice av mv cv] 78)).alloc (.cells #[.slice a l.length c] 29))
   simp only [World.size_alloc] at hs1
   have hb : ∀ o1 o2 o3 o4 o5 : Obj, Below w.heap.size w (((((w.alloc o1).alloc o2).alloc o3).alloc o4).alloc o5) := fun o1 o2 o3 o4 o5 => (((((Below.refl _ _).alloc (Nat.le_refl _) _).alloc (by simp) _).alloc (by simp; omega) _).alloc (by simp; omega) _).alloc (by simp; omega) _
   refine ⟨rfl, ⟨by simp [go_sem], by simp [go_sem], by simp [go_sem], by simp [go_sem], by simp [go_sem], by simp [go_sem], by simp [go_sem], by omega, ?_, ?_⟩, (hs1.alloc _).alloc _, by simp, hb _ _ _ _ _⟩
   · exact ((HR.out.slOfP.stays (fun b hb' _ => (hb _ _ _ _ _).block b hb')).mono (fun b hb' => by omega))
   · exact ((HS.out.slAtP.stays (fun b hb' _ => (hb _ _ _ _ _).block b hb')).mono (fun b hb' => by omega))
 case rest =>
   obtain ⟨rfl, hE, hS, hsz, hB⟩ := hcut
   have HE := Lib.hid hE
   have HSS := Lib.hid hS
   have HB := Lib.hid hB
   have hcl := hE.cl
   have hlt0 : w.heap.size + 1 < wc.heap.size := by omega
   clear hE hS hB hmm
   go_wp2_with fail
   go_loopg [6, 14] (l.length + 1) (fun gk vo i' wr => ∃ (k : Nat) (vs : List Value), i' = .int .i64 k ∧ k ≤ l.length ∧ gk + k = l.length + 1 ∧ wr.ownsRow (w.heap.size + 5) 29 1 vo vs.length vs ∧
     SidesOwn wr (w.heap.size + 5) vs (classesS rows l (l.take k)).1 ∧ SeenAt wr (w.heap.size + 1 + 1) (classesS rows l (l.take k)).2 ∧ wc.grownBy wr (some (w.heap.size + 1 + 1)))
   case atStart => exact ⟨0, [], rfl, Nat.zero_le _, by omega, World.ownsRow_nil _ _ _ _, ⟨rfl, fun i u r h => by cases h⟩, HSS.out, ⟨rfl, rfl, rfl, Nat.le_refl _, fun _ _ _ => rfl⟩⟩
   case round =>
     obtain ⟨k, vs, rfl, hk, hgk, hown, hsd, hSk, hgr⟩ := hrel
     have Er := HE.out.kept hgr
     have hok := classesS_ok rows l (l.take k) ([], []) (fun j hj => List.mem_of_mem_take hj) (by simpa using unseen_le l []) (Nat.le_refl _)
     rw [← classesS] at hok
     by_cases hlt : k < l.length
     · have hnext : classesS rows l (l.take (k + 1)) = cstep rows l (classesS rows l (l.take k)) l[k] := by
         unfold classesS
         rw [List.take_succ_eq_append_getElem hlt, List.foldl_append]; rfl
       generalize classesS rows l (l.take k) = st at hsd hSk hok hnext
       obtain ⟨sides, S⟩ := st
       dsimp only at hsd hSk hok
       obtain ⟨ao, co, hvo⟩ := ownsRow_form hown
       subst hvo
       have hcell0 := (Er.t.slAt.cells_of hlt)
       obtain ⟨b, off, rfl, hcell⟩ := hcell0
       have hjl : l[k] ∈ l := List.getElem_mem _
       have hjn := HL.out _ hjl
       generalize l[k] = j at hcell hjl hjn hnext
       have hbl : b < wr.heap.size := cell_lt hcell
       have hcs := Er.cs
       have hblt := cell_lt hcs
       have hj6 : j ≤ 1000000 := by omega
       have HSK := Lib.hid hSk
       have HN := Lib.hid hnext
       have HER := Lib.hid Er
       have H := Lib.hid (And.intro hown (And.intro hsd hgr))
       cases hcon : S.contains j with
       | true =>
         have HC := Lib.hid hcon
         have HV : Hid (cstep rows l (sides, S) j = (sides, S)) := by show _ = _; unfold cstep; dsimp only; rw [hcon]; rfl
         clear hown hsd hSk hgr Er hnext hcon hok
         go_wp2_with (at_lookup; refine wpList_seen_look _ rfl _ _ _ rfl Tryz.underlying144 (w.heap.size + 1 + 1) S HSK.out rfl j hj6 rfl _ HC.out ?_)
         go_roundg (gk - 1)
         case measure => omega
         case rel =>
           have hn2 := HN.out.trans HV.out
           refine ⟨k + 1, vs, by go_num, by omega, by omega, H.out.1, ?_, ?_, H.out.2.2⟩
           · rw [hn2]; exact H.out.2.1
           · rw [hn2]; exact HSK.out
       | false =>
         have HC := Lib.hid hcon
         have HV : Hid (cstep rows l (sides, S) j = (sides ++ [arrL rows (visit rows l l.length S j).1], (visit rows l l.length S j).2)) := by show _ = _; unfold cstep; dsimp only; rw [hcon]; rfl
         have hvo := visit_ok rows l l.length S j hjl hcon
         have hul := unseen_le l S
         clear hown hsd hSk hgr Er hnext hcon
         go_upto_region 9 with (at_lookup; refine wpList_seen_look _ rfl _ _ _ rfl Tryz.underlying144 (w.heap.size + 1 + 1) S HSK.out rfl j hj6 rfl _ HC.out ?_)
         obtain ⟨C, hC⟩ : ∃ C : World → Prop, C = fun W => VEnv W (w.heap.size + 1 + 1) (w.heap.size + 1 + 1 + 1) (w.heap.size + 1) w.heap.size (w.heap.size + 1 + 1 + 1 + 1) (.slice al ml cl) (.slice ae me ce) (.slice ar mr cr) (.slice av mv cv) (.slice (some ⟨b, off, none⟩) l.length c) rows l := ⟨_, rfl⟩
         have hCi : ∀ W, VEnv W (w.heap.size + 1 + 1) (w.heap.size + 1 + 1 + 1) (w.heap.size + 1) w.heap.size (w.heap.size + 1 + 1 + 1 + 1) (.slice al ml cl) (.slice ae me ce) (.slice ar mr cr) (.slice av mv cv) (.slice (some ⟨b, off, none⟩) l.length c) rows l → C W := fun W h => by rw [hC]; exact h
         have hdr : Below wr.heap.size wr wr.drew := (Below.refl _ _).drew
         have E0 := HER.out.kept (grownBy_of_below hdr _)
         have hC0 : C wr.drew := hCi _ E0
         have hne : Nonempty (Cls C) := ⟨⟨_, hC0⟩⟩
         have c0 : ∀ p : Cls C, p.w.cell? ⟨w.heap.size, 0, none⟩ = some (.slice al ml cl) := by subst hC; exact fun p => p.h.x0
         have c1 : ∀ p : Cls C, p.w.cell? ⟨w.heap.size, 1, none⟩ = some (.slice ae me ce) := by subst hC; exact fun p => p.h.x1
         have c2 : ∀ p : Cls C, p.w.cell? ⟨w.heap.size, 2, none⟩ = some (.slice ar mr cr) := by subst hC; exact fun p => p.h.x2
         have c3 : ∀ p : Cls C, p.w.cell? ⟨w.heap.size, 3, none⟩ = some (.slice av mv cv) := by subst hC; exact fun p => p.h.x3
         have c4 : ∀ p : Cls C, p.w.cell? ⟨w.heap.size + 1 + 1 + 1 + 1, 0, none⟩ = some (.func (.func 106) #[] #[.pointer (some ⟨w.heap.size + 1 + 1 + 1, 0, none⟩), .pointer (some ⟨w.heap.size + 1, 0, none⟩), .pointer (some ⟨w.heap.size, 0, none⟩), .pointer (some ⟨w.heap.size + 1 + 1 + 1 + 1, 0, none⟩)]) := by subst hC; exact fun p => p.h.cv
         have HCI := Lib.hid hCi
         have HE0 := Lib.hid E0
         have HV2 := Lib.hid hvo
         clear hC hCi E0 hvo
         refine wp_region_ord C 99 [(0, true), (1, true), (2, true), (3, true), (4, false), (5, false), (6, false), (7, false), (8, true)] (by kernel_rfl) (by kernel_rfl) hC0 ?_
         iterate 4 (refine wpOrd_pure rfl (fun _ _ _ _ h => h) rfl (fun K hK => ?_); go_simp; refine hK _ ?_; clear hK K)
         refine wpOrd_eff rfl rfl (fun K hK => ?_)
         go_simp
         refine (visit_any (w.heap.size + 1 + 1) (w.heap.size + 1 + 1 + 1) (w.heap.size + 1) w.heap.size (w.heap.size + 1 + 1 + 1 + 1) n _ _ _ _ _ rows l hq hn HL.out hll HVA.out HVE.out HVV.out l.length S j wr.drew HE0.out (show SeenAt wr.drew _ _ from HSK.out) hjl HC.out (by omega) (by omega)).mono ?_
         rintro e w1 ⟨u, rfl, hown1, hS1, hg1⟩
         have E1 := HE0.out.kept hg1
         refine hK _ _ (.inr (HCI.out _ E1)) ?_
         clear hK K
         have HV := Lib.hid HV.out
         generalize visit rows l l.length S j = r at hown1 hS1 HV HV2
         obtain ⟨r1, r2⟩ := r
         have hv2l := HV2.out.len
         have hv2s := HV2.out.sum
         have hv2m := HV2.out.mem
         dsimp only at hown1 hS1 hv2l hv2s hv2m
         obtain ⟨au, cu, hu⟩ := ownsRow_form hown1
         subst hu
         have har := arranged_any (.slice al ml cl) (.slice ae me ce) (.slice ar mr cr) (.slice av mv cv) (.slice au r1.length cu) n r1 rows w1 E1.r.slOf hq (fun x hx => HL.out x (hv2m x hx)) hn (by omega) (ownsRow_slAt hown1) HVA.out HVE.out HVV.out
         have HE1 := Lib.hid E1
         have HS1 := Lib.hid hS1
         clear hown1 hS1 E1 hv2m
         refine wpOrd_eff rfl rfl (fun K hK => ?_)
         go_simp
         refine har.mono ?_
         rintro e w2 ⟨u2, rfl, hown2, hb2⟩
         have hg2 := grownBy_of_below hb2 (some (w.heap.size + 1 + 1))
         have E2 := HE1.out.kept hg2
         refine hK _ _ (.inr (HCI.out _ E2)) ?_
         clear hK K har
         have HRL := Lib.hid (arrN_length rows (sortI r1).length (sortI r1) rfl)
         generalize hL2 : arrL rows r1 = L2 at hown2 HV
         have HL2 := Lib.hid hL2
         obtain ⟨a2, c2', hu2⟩ := ownsRow_form hown2
         subst hu2
         have HE2 := Lib.hid E2
         have hbase1 : w.heap.size + 5 ≤ w1.heap.size := by have h1 := HER.out; have h2 := H.out.2.2.size; have h3 := hg1.size; simp at h3; omega
         have hs2 := hb2.size
         clear E2 hL2
         refine wpOrd_eff rfl rfl (fun K hK => ?_)
         go_simp
         have hg3 : (w2.alloc (.cells #[.slice a2 L2.length c2'] 29)).heap.size = w2.heap.size + 1 := by simp
         refine hK _ _ (.inr (HCI.out _ (HE2.out.kept (World.grownBy_alloc _ _ _)))) ?_
         clear hK K
         refine wpOrd_eff rfl rfl (fun K hK => ?_)
         have hA : wr.drew.grownBy (w2.alloc (.cells #[.slice a2 L2.length c2'] 29)) (some (w.heap.size + 1 + 1)) := grownBy_trans' (grownBy_trans' hg1 hg2) (World.grownBy_alloc _ _ _)
         have hAW : wr.grownBy (w2.alloc (.cells #[.slice a2 L2.length c2'] 29)) (some (w.heap.size + 1 + 1)) := grownBy_trans' (grownBy_of_below hdr _) hA
         have hnb : ∀ (v : Value) e n xs, wr.ownsRow (w.heap.size + 5) e 1 v n xs → v.ownBlock = none ∨ v.ownBlock ≠ some (w.heap.size + 1 + 1) := fun v e n xs hv => .inr fun e => by have := (hv.lt _ e).1; omega
         have hout3 := H.out.1.kept hAW (hnb _ _ _ _ H.out.1)
         have hsd3 := H.out.2.1.kept hAW (fun u hu => by obtain ⟨r, hr⟩ := hu; exact hnb _ _ _ _ hr)
         have hrow3 : (w2.alloc (.cells #[.slice a2 L2.length c2'] 29)).ownsRow (w.heap.size + 5) 3 1 (.slice a2 L2.length c2') L2.length (ints (nats L2)) := ownsRow_base' (ownsRow_below hown2 ((Below.refl _ _).alloc (Nat.le_refl _) _)) hbase1
         have hsl := hok.2
         have hsl2 := H.out.2.1.1
         have hsrc : SrcAt (w2.alloc (.cells #[.slice a2 L2.length c2'] 29)) (.slice (some ⟨w2.heap.size, 0, none⟩) 1 1) 1 1 [.slice a2 L2.length c2'] := by
           refine SrcAt.one _ _ _ [.slice a2 L2.length c2'] fun j u hu => ?_
           cases j with
           | zero => simp at hu; subst hu; simp [go_sem]
           | succ j => simp at hu
         refine wp_app _ _ _ (by rfl) (w.heap.size + 5) 29 (.slice none 0 0) 1 24 Tryz.underlying43 info_ints rfl (by decide) _ vs.length vs (by rfl) hout3 _ 1 [.slice a2 L2.length c2'] (by rfl) hsrc (by intro u hu; simp at hu; subst hu; rfl) (by omega) (by omega) (by omega) ?_
         intro a' c' w4 hown4 hgrow4 hat4
         have hB4 : wc.grownBy w4 (some (w.heap.size + 1 + 1)) := grownBy_step (grownBy_trans' H.out.2.2 hAW) hgrow4 (fun r e => by have := (hout3.lt r e).1; omega)
         have E4 := HE.out.kept hB4
         refine hK _ _ (.inr (HCI.out _ E4)) ?_
         clear hK K
         have hnb4 : some (w.heap.size + 1 + 1) ≠ (Value.slice ao vs.length co).ownBlock := fun e => by have := (hout3.lt _ e.symm).1; omega
         have hS4 : SeenAt w4 (w.heap.size + 1 + 1) r2 := by
           have h1 : SeenAt w2 (w.heap.size + 1 + 1) r2 := HS1.out.kept (grownBy_of_below hb2 none) (by simp)
           exact (h1.alloc _).kept hgrow4 hnb4
         have hne4 : ∀ (u : Value) n xs, (w2.alloc (.cells #[.slice a2 L2.length c2'] 29)).ownsRow (w.heap.size + 5) 3 1 u n xs → u.ownBlock = none ∨ u.ownBlock ≠ (Value.slice ao vs.length co).ownBlock := fun u n xs hu => own_types_ne hu hout3 (by decide)
         have hsd4 := (hsd3.kept hgrow4 (fun u hu => by obtain ⟨r, hr⟩ := hu; exact hne4 _ _ _ hr)).snoc (hrow3.kept hgrow4 (hne4 _ _ _ hrow3))
         have HF := Lib.hid (And.intro hown4 (And.intro hsd4 (And.intro hS4 hB4)))
         clear hsl2 hown4 hsd4 hS4 hB4 hgrow4 hat4 E4 hsrc hrow3 hsd3 hout3 hnb hAW hA hne4 hnb4 hown2 hb2
         refine wpOrd_pure rfl (fun _ _ _ _ h => h) rfl (fun K hK => ?_); go_simp; refine hK _ ?_; clear hK K
         refine wpOrd_nil ?_
         go_wp2
         go_roundg (gk - 1)
         case measure => omega
         case rel =>
           have hn2 := HN.out.trans HV.out
           refine ⟨k + 1, vs ++ [.slice a2 L2.length c2'], by go_num, by omega, by omega, by simpa using HF.out.1, ?_, ?_, HF.out.2.2.2⟩
           · rw [hn2]; exact HF.out.2.1
           · rw [hn2]; exact HF.out.2.2.1
     · obtain rfl : k = l.length := by omega
       rw [List.take_of_length_le (Nat.le_refl _)] at hsd
       obtain ⟨ao, co, hvo⟩ := ownsRow_form hown
       subst hvo
       have HF := Lib.hid (And.intro hown hsd)
       have HG := Lib.hid hgr
       clear hown hsd hSk hgr Er hok
       go_wp2_with fail
       go_ret
       refine ⟨.slice ao vs.length co, vs, rfl, ownsRow_base' HF.out.1 (by omega), ⟨HF.out.2.1, fun i u r hu hr => ownsRow_base' (HF.out.2.2 i u r hu hr) (by omega)⟩, HB.out.grown HG.out (by omega) (fun j hj => by obtain rfl := Option.some.inj hj; omega)⟩
end Go.Proofs.Lg

namespace Go.Proofs.Lg
open Go Go.RowKit Go.Shelf
def PlainObj : Obj → Prop
 | .cells _ t _ => t ≠ 45 ∧ t ≠ 32
 | .map _ _ => True
 | _ => False
structure KeepsK (W W' : World) : Prop where
 os : W'.os = W.os
 tape : W'.tape = W.tape
 output : W'.output = W.output
 size : W.heap.size ≤ W'.heap.size
 block : ∀ (k : Nat) (o : Obj), W.heap[k]? = some o → PlainObj o → W'.heap[k]? = some o
theorem KeepsK.refl (W : World) : KeepsK W W := ⟨rfl, rfl, rfl, Nat.le_refl _, fun _ _ h _ => h⟩
theorem KeepsK.trans {A B C : World} (h : KeepsK A B) (k : KeepsK B C) : KeepsK A C :=
 ⟨k.os.trans h.os, k.tape.trans h.tape, k.output.trans h.output, Nat.le_trans h.size k.size, fun j o hj ho => k.block j o (h.block j o hj ho) ho⟩
theorem KeepsK.of_below {A B : World} (h : Below A.heap.size A B) : KeepsK A B :=
 ⟨h.os, h.tape, h.output, h.size, fun j _ hj _ => (h.block j (Array.getElem?_eq_some_iff.1 hj).1).trans hj⟩
theorem KeepsK.of_grown {A B : World} {row : Option Nat} (h : A.grownBy B row) (hr : ∀ r o, row = some r → A.heap[r]? = some o → ¬ PlainObj o) : KeepsK A B :=
 ⟨h.os, h.tape, h.output, h.size, fun j o hj ho => (h.block j (Array.getElem?_eq_some_iff.1 hj).1 (fun e => hr j o e.symm hj ho)).trans hj⟩
theorem ownsRow_keepsK {W W' : World} {base e n : Nat} {v : Value} {xs : List Value} (h : W.ownsRow base e 1 v n xs) (hk : KeepsK W W') (he : e ≠ 45 ∧ e ≠ 32) : W'.ownsRow base e 1 v n xs := by
 refine ⟨h.1, ?_⟩
 rcases h.2 with h2 | ⟨g, cap, cur, hv, hb, hg, h3⟩
 · exact .inl h2
 · exact .inr ⟨g, cap, cur, hv, hb, hk.block g _ hg he, h3⟩
theorem SidesOwn.keepsK {W W' : World} {base : Nat} {us : List Value} {sides : List (List Nat)} (h : SidesOwn W base us sides) (hk : KeepsK W W') : SidesOwn W' base us sides :=
 ⟨h.1, fun i u r hu hr => ownsRow_keepsK (h.2 i u r hu hr) hk (by decide)⟩
structure Reg where
 conflict : Bool
 lines : List Nat
 sides : List (List Nat)
def RegAt (W : World) (v : Value) (r : Reg) : Prop :=
 ∃ (vl vs : Value) (us : List Value), v = .agg #[.bool r.conflict, vl, vs] ∧ W.ownsRow 0 3 1 vl r.lines.length (ints (nats r.lines)) ∧ W.ownsRow 0 29 1 vs us.length us ∧ SidesOwn W 0 us r.sides
theorem RegAt.keepsK {W W' : World} {v : Value} {r : Reg} (h : RegAt W v r) (hk : KeepsK W W') : RegAt W' v r := by
 obtain ⟨vl, vs, us, hv, h1, h2, h3⟩ := h
 exact ⟨vl, vs, us, hv, ownsRow_keepsK h1 hk (by decide), ownsRow_keepsK h2 hk (by decide), h3.keepsK hk⟩
theorem RegAt.below {W W' : World} {v : Value} {r : Reg} (h : RegAt W v r) (hb : Below W.heap.size W W') : RegAt W' v r := h.keepsK (KeepsK.of_below hb)
theorem RegAt.settled {W : World} {v : Value} {base : Nat} {l : List Nat} (h : W.ownsRow base 3 1 v l.length (ints (nats l))) : RegAt W (.agg #[.bool false, v, .slice none 0 0]) ⟨false, l, []⟩ :=
 ⟨v, .slice none 0 0, [], rfl, ownsRow_base' h (Nat.zero_le _), World.ownsRow_nil _ _ _ _, rfl, fun i u r hu => by cases hu⟩
theorem RegAt.contested {W : World} {v : Value} {base : Nat} {us : List Value} {sides : List (List Nat)} (h : W.ownsRow base 29 1 v us.length us) (hs : SidesOwn W base us sides) : RegAt W (.agg #[.bool true, .slice none 0 0, v]) ⟨true, [], sides⟩ :=
 ⟨.slice none 0 0, v, us, rfl, World.ownsRow_nil _ _ _ _, ownsRow_base' h (Nat.zero_le _), hs.1, fun i u r hu hr => ownsRow_base' (hs.2 i u r hu hr) (Nat.zero_le _)⟩
def regStep (rows : List (List Bool)) (inn out : List Nat) (c : List Reg × List Nat) (n : Nat) : List Reg × List Nat :=
 let g := out.filter fun i => gapN rows inn i == n
 let c1 := if g = [] then c else ((if c.2 = [] then c.1 else c.1 ++ [⟨false, c.2, []⟩]) ++ [⟨true, [], classesL rows g⟩], [])
 match inn[n]? with
 | some i => (c1.1, c1.2 ++ [i])
 | none => c1
def regRun (rows : List (List Bool)) (inn out : List Nat) (n : Nat) : List Reg × List Nat := (List.range n).foldl (regStep rows inn out) ([], [])
theorem regRun_succ (rows : List (List Bool)) (inn out : List Nat) (m : Nat) : regRun rows inn out (m + 1) = regStep rows inn out (regRun rows inn out m) m := by
 unfold regRun
 rw [List.range_succ, List.foldl_append]
 rfl
theorem regStep_len (rows : List (List Bool)) (inn out : List Nat) (c : List Reg × List Nat) (m : Nat) : (regStep rows inn out c m).1.length ≤ c.1.length + 2 ∧ (regStep rows inn out c m).2.length ≤ c.2.length + 1 := by
 unfold regStep
 dsimp only
 generalize out.filter (fun i => gapN rows inn i == m) = g
 by_cases hg : g = [] <;> by_cases hc : c.2 = [] <;> cases inn[m]? <;> simp [hg, hc]
theorem regRun_len (rows : List (List Bool)) (inn out : List Nat) : ∀ m : Nat, (regRun rows inn out m).1.length ≤ 2 * m ∧ (regRun rows inn out m).2.length ≤ m
 | 0 => ⟨Nat.le_refl _, Nat.le_refl _⟩
 | m + 1 => by
   have h1 := regRun_len rows inn out m
   have h2 := regStep_len rows inn out (regRun rows inn out m) m
   rw [regRun_succ]
   omega
def regEnd (c : List Reg × List Nat) : List Reg := if c.2 = [] then c.1 else c.1 ++ [⟨false, c.2, []⟩]
def regionsL (rows : List (List Bool)) (living : List Nat) : List Reg :=
 regEnd (regRun rows (sortB rows (inL rows living living)) (outL rows living living) ((sortB rows (inL rows living living)).length + 1))
end Go.Proofs.Lg
