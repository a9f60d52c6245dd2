/-
  Part GAJ of this claim's proof. Joined by merge.py from the texts of wip/tpl.
-/
import Derived.Test.YtclholnhkhjjaaaGreatGAI
set_option linter.unusedVariables false
set_option linter.unusedSimpArgs false
set_option linter.unnecessarySimpa false
set_option linter.unusedVariables false
namespace Go.Bb
open Go Go.RowKit Go.Ab Go.Proofs.Lg
def mapO {α β : Type} (g : α → Option β) : List α → Option (List β)
 | [] => some []
 | x :: l => match g x, mapO g l with
   | some y, some l' => some (y :: l')
   | _, _ => none
theorem mapO_get {α β : Type} {g : α → Option β} : ∀ {l : List α} {l' : List β}, mapO g l = some l' → l'.length = l.length ∧ ∀ (i : Nat) (x : α), l[i]? = some x → ∃ y, l'[i]? = some y ∧ g x = some y
 | [], l', h => by simp [mapO] at h; subst h; simp
 | x :: l, l', h => by
   unfold mapO at h
   split at h
   · rename_i y l2 h1 h2
     obtain rfl := Option.some.inj h
     obtain ⟨k1, k2⟩ := mapO_get h2
     refine ⟨by simp [k1], fun i z hz => ?_⟩
     cases i with
     | zero => simp at hz; subst hz; exact ⟨y, rfl, h1⟩
     | succ i => exact k2 i z (by simpa using hz)
   · cases h
def deepD (s : List AObj) : Nat → AV → Option D
 | 0, _ => none
 | f + 1, .vec id n sz => match s[id]? with
   | some (.vec _ sz2 ds) => if sz2 = sz ∧ 0 < sz ∧ ds.length = n * sz then (mapO (deepD s f) ds).map fun es => .sl sz (chunk sz n es) else none
   | _ => none
 | f + 1, .win id off n sz => match s[id]? with
   | some (.cells ds) => if off + n * sz ≤ ds.length then (mapO (deepD s f) ((ds.drop off).take (n * sz))).map fun es => .sl sz (chunk sz n es) else none
   | _ => none
 | f + 1, .ptr id off => match s[id]? with
   | some (.cells ds) => (mapO (deepD s f) (ds.drop off)).map .ref
   | _ => none
 | f + 1, .agg cs => (mapO (deepD s f) cs).map .agg
 | f + 1, .tup cs => (mapO (deepD s f) cs).map .tup
 | _ + 1, x => x.toL
theorem deepD_ok {LL : Nat → Code → CC → Prop} {B : Nat} {k : Cfg} {s : List AObj} {w : World} (hs : St LL B k s w) {I' : Nat → Nat} (hk : KeepI k.I w I' w) (hB : ∀ b o u, B ≤ b → w.cell? ⟨b, o, none⟩ = some u → o < I' b) : ∀ (f : Nat) (x : AV) (d : D) (v : Value), deepD s f x = some d → RA k w v x → RD I' w v d
 | 0, x, d, v, h, _ => by simp [deepD] at h
 | f + 1, x, d, v, h, hv => by
   have vals : ∀ (us : List Value) (cs : List AV) (es : List D), RVs k w us cs → mapO (deepD s f) cs = some es → us.length = es.length ∧ ∀ (i : Nat) (u : Value) (d : D), us[i]? = some u → es[i]? = some d → RD I' w u d := fun us cs es h1 h2 => by
     obtain ⟨k1, k2⟩ := mapO_get h2
     refine ⟨h1.1.trans k1.symm, fun i u e hu he => ?_⟩
     obtain ⟨hi, _⟩ := List.getElem?_eq_some_iff.1 he
     have hc : cs[i]? = some cs[i] := List.getElem?_eq_getElem (by omega)
     obtain ⟨e', h3, h4⟩ := k2 i _ hc
     rw [he] at h3; cases h3
     exact deepD_ok hs hk hB f _ _ u h4 (h1.2 i u _ hu hc)
   have cells : ∀ (us : List Value) (cs : List AV) (es : List D), RAs k w us cs → mapO (deepD s f) cs = some es → RDs I' w us es := fun us cs es h1 h2 =>
     let ⟨g1, g2⟩ := vals us cs es h1.rvs h2; ⟨g1, h1.2.1, g2⟩
   have leaf : ∀ y, x = y → x.toL = some d → RA k w v x → RD I' w v d := fun y _ h1 h2 => (h2.toL h1).mono hk
   cases x with
   | agg cs =>
     obtain ⟨us, rfl, h2⟩ := hv.agg_inv
     obtain ⟨es, hes, rfl⟩ := map_inv (show (mapO (deepD s f) cs).map D.agg = some d from h)
     have h3 := cells us cs es h2 hes
     exact .agg us es h3.1 h3.2.1 h3.2.2
   | tup cs =>
     obtain ⟨us, rfl, h2⟩ := hv.tup_inv
     obtain ⟨es, hes, rfl⟩ := map_inv (show (mapO (deepD s f) cs).map D.tup = some d from h)
     have h3 := vals us cs es h2 hes
     exact .tup us es h3.1 h3.2
   | ptr id off =>
     simp only [deepD] at h
     split at h
     · rename_i ds hid
       obtain ⟨es, hes, rfl⟩ := map_inv h
       obtain ⟨b, hb, rfl⟩ := hv.ptr_inv
       obtain ⟨b', t', us, g1, g2, g3, _⟩ := hs.cells hid
       rw [hb] at g1; cases g1
       have h5 := cells _ _ es (g3.drop off) hes
       refine .ref _ _ _ _ h5.1 h5.2.1 (fun i u hu => ?_) h5.2.2
       rw [List.getElem?_drop] at hu
       have hc : w.cell? ⟨b, off + i, none⟩ = some u := by rw [cells_at g2]; exact hu
       exact ⟨hB _ _ _ (hs.lies id _ b hb rfl).1 hc, hc⟩
     · cases h
   | win id off n sz =>
     simp only [deepD] at h
     split at h
     · rename_i ds hid
       split at h
       · rename_i hle
         obtain ⟨es, hes, rfl⟩ := map_inv h
         obtain ⟨b, c, hb, rfl, hnc, hcm⟩ := hv.win_inv
         obtain ⟨b', t', us, g1, g2, g3, _⟩ := hs.cells hid
         rw [hb] at g1; cases g1
         have h5 := cells _ _ es ((g3.drop off).take (n * sz)) hes
         have hl := (mapO_get hes).1
         obtain ⟨hf1, hf2⟩ := chunk_flat sz n es (by rw [hl]; simp; omega)
         refine RD.sl_mk (chunk_len sz n es) hf2 hnc hcm (by rw [hf1]; exact h5) fun _ => ⟨b, off, rfl, fun i u hu => ?_⟩
         rw [List.getElem?_take] at hu
         split at hu
         · rw [List.getElem?_drop] at hu
           have hc : w.cell? ⟨b, off + i, none⟩ = some u := by rw [cells_at g2]; exact hu
           exact ⟨hB _ _ _ (hs.lies id _ b hb rfl).1 hc, hc⟩
         · cases hu
       · cases h
     · cases h
   | vec id n sz =>
     simp only [deepD] at h
     split at h
     · rename_i e sz2 ds hid
       split at h
       · rename_i hcc
         obtain ⟨rfl, c0, c1⟩ := hcc
         obtain ⟨es, hes, rfl⟩ := map_inv h
         obtain ⟨_, u, n', hku, hle, heq⟩ := hv.vec_inv
         obtain ⟨v2, n2, xs, g1, hown, hI, g4, hxs⟩ := hs.vec hid
         rw [hku] at g1; cases g1
         have hnn : n = n' := by
           rw [c1] at g4
           exact Nat.eq_of_mul_eq_mul_right c0 g4
         subst hnn
         rw [heq rfl]
         have h3 := cells xs ds es hxs hes
         have hl := (mapO_get hes).1
         obtain ⟨hf1, hf2⟩ := chunk_flat sz2 n es (by omega)
         rcases hown.2 with ⟨hv', h0⟩ | ⟨g, cap, cur, hv', hbg, hg, hnc, hcm, hcs, htake⟩
         · subst hv'; subst h0
           exact RD.sl_mk (us := []) rfl (by simp [chunk]) (by omega) (by omega) ⟨by simp [chunk], by simp, by simp⟩ (by simp [chunk])
         · rw [hv']
           refine RD.sl_mk (chunk_len sz2 n es) hf2 hnc (by unfold maxLen at hcm; omega) (by rw [hf1]; exact h3) fun _ => ⟨g, 0, rfl, fun i x hx => ?_⟩
           have := hown.cells (g := g) (by rw [hv']; rfl) i x hx
           rw [Addr.add_mid] at this
           exact ⟨hB _ _ _ hbg this, this⟩
       · cases h
     · cases h
   | d y => exact leaf _ rfl (by simpa [deepD] using h) hv
   | tsl id sz rows => exact leaf _ rfl (by simpa [deepD] using h) hv
   | nil sz => exact leaf _ rfl (by simpa [deepD] using h) hv
   | emp sz => exact leaf _ rfl (by simpa [deepD] using h) hv
   | _ => exact leaf _ rfl (by simpa [deepD] using h) hv
theorem AFn.of_runs {P : Program} {LL : Nat → Code → CC → Prop} {f : FuncId} {ds : List D} {x : AV} {s' : List AObj} {r : D} (h : FnRuns LL P f (ds.map .d) [] x s') (hr : deepD s' 5 x = some r) : AFn P f ds r := by
 refine ⟨h.enters, fun I w vs hl hvs => ?_⟩
 have hst : St LL w.heap.size ⟨I, []⟩ [] w := ⟨Nat.le_refl _, rfl, by simp, by simp, by simp⟩
 refine Calls.mono (h.calls w.heap.size ⟨I, []⟩ w vs hst ⟨by simp [hl], fun i u c hu hc => ?_⟩) ?_
 · rw [List.getElem?_map] at hc
   obtain ⟨d, hd, rfl⟩ := Option.map_eq_some_iff.1 hc
   exact .d (hvs i u d hu hd)
 · rintro e w' ⟨v, k', rfl, hv, he, hs⟩
   refine ⟨v, rfl, deepD_ok hs (I' := bigI I w.heap.size w') (fun b q u hb hc => ⟨?_, hc⟩) (fun b q u hb hc => ?_) 5 x r v hr hv, he.below⟩
   · by_cases hlt : b < w.heap.size
     · rw [bigI_lt _ _ hlt]; have := he.low b hlt; rw [this] at hb; exact hb
     · unfold bigI; rw [if_neg hlt]; exact lt_cellsIn hc
   · unfold bigI; rw [if_neg (by omega)]; exact lt_cellsIn hc
theorem AFn_of {P : Program} {mus : List Nat} {f : FuncId} {F : CF} (hc : compFn P mus f = some F.erase) {args : List D} {r : D} (hargs : args.length ≤ F.n) (h : wpK P none F.body (RetQ F.res fun x s => deepD s 5 x = some r) (argF 0 (args.map .d)) []) : AFn P f args r :=
 let ⟨_, _, h1, h2⟩ := FnK.of hc (by simpa using hargs) h; AFn.of_runs h1 h2
theorem AFn_of' {P : Program} {f : FuncId} {args : List D} {r : D} (h : FnK P f (args.map .d) [] fun x s => deepD s 5 x = some r) : AFn P f args r :=
 let ⟨_, _, h1, h2⟩ := h; AFn.of_runs h1 h2
def isScD : D → Bool
 | .sc _ => true
 | _ => false
def flatD : D → Bool
 | .sc _ => true
 | .agg cs => cs.all isScD
 | .tup cs => cs.all isScD
 | _ => false
theorem RD_sc_any {I I' : Nat → Nat} {w w' : World} {v : Value} {r : D} (h : RD I w v r) (hr : isScD r = true) : RD I' w' v r := by
 cases h with
 | sc => exact .sc _
 | _ => cases hr
theorem RD_flat_any {I I' : Nat → Nat} {w w' : World} {v : Value} {r : D} (h : RD I w v r) (hr : flatD r = true) : RD I' w' v r := by
 cases h with
 | sc => exact .sc _
 | agg us ds h1 h2 h3 => exact .agg us ds h1 h2 fun i u d hu hd => RD_sc_any (h3 i u d hu hd) (List.all_eq_true.1 hr d (List.mem_of_getElem? hd))
 | tup us ds h1 h3 => exact .tup us ds h1 fun i u d hu hd => RD_sc_any (h3 i u d hu hd) (List.all_eq_true.1 hr d (List.mem_of_getElem? hd))
 | _ => cases hr
theorem mapO_of {α β : Type} {g : α → Option β} : ∀ {l : List α} {l' : List β}, l'.length = l.length → (∀ (i : Nat) (x : α), l[i]? = some x → ∃ y, l'[i]? = some y ∧ g x = some y) → mapO g l = some l'
 | [], [], _, _ => rfl
 | [], _ :: _, h, _ => by simp at h
 | _ :: _, [], h, _ => by simp at h
 | x :: l, y :: l', h, hx => by
   obtain ⟨z, h1, h2⟩ := hx 0 x rfl
   cases h1
   unfold mapO
   rw [h2, mapO_of (l := l) (l' := l') (by simpa using h) fun i u hu => hx (i + 1) u (by simpa using hu)]
theorem deepD_agrees {LL : Nat → Code → CC → Prop} {B : Nat} {k : Cfg} {s s2 : List AObj} {w : World} (hs : St LL B k s2 w) (ha : Agrees s s2) : ∀ (f : Nat) (x : AV) (d : D) (v : Value), deepD s f x = some d → RA k w v x → deepD s2 f x = some d
 | 0, x, d, v, h, _ => by simp [deepD] at h
 | f + 1, x, d, v, h, hv => by
   have vals : ∀ (us : List Value) (cs : List AV) (es : List D), RVs k w us cs → mapO (deepD s f) cs = some es → mapO (deepD s2 f) cs = some es := fun us cs es h1 h2 => by
     obtain ⟨k1, k2⟩ := mapO_get h2
     refine mapO_of k1 fun i c hc => ?_
     obtain ⟨e, h3, h4⟩ := k2 i c hc
     have hi := (List.getElem?_eq_some_iff.1 hc).1
     have hlen := h1.1
     have hu : us[i]? = some us[i] := List.getElem?_eq_getElem (by omega)
     exact ⟨e, h3, deepD_agrees hs ha f _ _ _ h4 (h1.2 i _ c hu hc)⟩
   have same : ∀ (id : Nat) (o : AObj), x.hdl = some id → s[id]? = some o → s2[id]? = some o := fun id o hh ho => by
     have h2 := hv.hdl_lt hh
     rw [hs.len] at h2
     rw [ha id (List.getElem?_eq_some_iff.1 ho).1 h2]; exact ho
   cases x with
   | agg cs =>
     obtain ⟨us, rfl, h2⟩ := hv.agg_inv
     obtain ⟨es, hes, rfl⟩ := map_inv (show (mapO (deepD s f) cs).map D.agg = some d from h)
     show (mapO (deepD s2 f) cs).map D.agg = _
     rw [vals us cs es h2.rvs hes]; rfl
   | tup cs =>
     obtain ⟨us, rfl, h2⟩ := hv.tup_inv
     obtain ⟨es, hes, rfl⟩ := map_inv (show (mapO (deepD s f) cs).map D.tup = some d from h)
     show (mapO (deepD s2 f) cs).map D.tup = _
     rw [vals us cs es h2 hes]; rfl
   | ptr id off =>
     simp only [deepD] at h ⊢
     split at h
     · rename_i ds hid
       rw [same id _ rfl hid]
       obtain ⟨es, hes, rfl⟩ := map_inv h
       obtain ⟨b', t', us, g1, g2, g3, _⟩ := hs.cells (same id _ rfl hid)
       show (mapO (deepD s2 f) (ds.drop off)).map D.ref = _
       rw [vals _ _ es (g3.drop off).rvs hes]; rfl
     · cases h
   | win id off n sz =>
     simp only [deepD] at h ⊢
     split at h
     · rename_i ds hid
       split at h
       · rename_i hle
         rw [same id _ rfl hid]
         obtain ⟨es, hes, rfl⟩ := map_inv h
         obtain ⟨b', t', us, g1, g2, g3, _⟩ := hs.cells (same id _ rfl hid)
         show (if off + n * sz ≤ ds.length then (mapO (deepD s2 f) ((ds.drop off).take (n * sz))).map (fun es => D.sl sz (chunk sz n es)) else none) = _
         rw [if_pos hle, vals _ _ es ((g3.drop off).take (n * sz)).rvs hes]; rfl
       · cases h
     · cases h
   | vec id n sz =>
     simp only [deepD] at h ⊢
     split at h
     · rename_i e sz2 ds hid
       split at h
       · rename_i hcc
         rw [same id _ rfl hid]
         obtain ⟨es, hes, rfl⟩ := map_inv h
         obtain ⟨v2, n2, xs, g1, hown, hI, g4, hxs⟩ := hs.vec (same id _ rfl hid)
         show (if sz2 = sz ∧ 0 < sz ∧ ds.length = n * sz then (mapO (deepD s2 f) ds).map (fun es => D.sl sz (chunk sz n es)) else none) = _
         rw [if_pos hcc, vals _ _ es hxs.rvs hes]; rfl
       · cases h
     · cases h
   | _ => simpa [deepD] using h
theorem AFn.deepR {P : Program} {LL : Nat → Code → CC → Prop} {f : FuncId} {ds : List D} {r : D} (h : AFn P f ds r) {xs : List AV} {s s2 : List AObj} (hx : mapO (deepD s 5) xs = some ds) (ha : Agrees s s2) (hr : flatD r = true) : FnRuns LL P f xs s2 (.d r) s2 := by
 refine ⟨h.enters, fun B k w vs hst hvs => ?_⟩
 obtain ⟨l1, l2⟩ := mapO_get hx
 refine Calls.mono (h.calls (cellsIn w) w vs (by rw [hvs.1, l1]) fun i v d hv hd => ?_) ?_
 · obtain ⟨hi, _⟩ := List.getElem?_eq_some_iff.1 hd
   have hc : xs[i]? = some xs[i] := List.getElem?_eq_getElem (by omega)
   obtain ⟨d', h3, h4⟩ := l2 i _ hc
   rw [hd] at h3; cases h3
   have hra := hvs.2 i v _ hv hc
   exact deepD_ok hst (I' := cellsIn w) (fun b o u _ hcell => ⟨lt_cellsIn hcell, hcell⟩) (fun b o u _ hcell => lt_cellsIn hcell) 5 _ _ v (deepD_agrees hst ha 5 _ _ v h4 hra) hra
 · rintro e w' ⟨v, rfl, hv, hb⟩
   exact ⟨v, ⟨bigI k.I w.heap.size w', k.own⟩, rfl, .d (RD_flat_any hv hr), Ext.called hst.base hb, hst.called hb⟩
theorem AFn.deep {P : Program} {LL : Nat → Code → CC → Prop} {f : FuncId} {ds : List D} {r : D} (h : AFn P f ds r) {xs : List AV} {s : List AObj} (hx : mapO (deepD s 5) xs = some ds) (hr : flatD r = true) : FnRuns LL P f xs s (.d r) s := h.deepR hx (Agrees.refl s) hr
theorem CallM.reads {P : Program} {f : FuncId} {fs cs vs : List AV} {s : List AObj} {K : AV → List AObj → Nat → Prop} {ds : List D} {r : D} (h : AFn P f ds r) (hd : mapO (deepD s 5) (fs ++ vs ++ cs) = some ds) (hr : flatD r = true) (hk : K (.d r) s 1) : CallM P (.clo f fs cs) vs s K :=
 .inr (.inr (.inl ⟨_, fun s2 ha => h.deepR hd ha hr, hk⟩))
theorem CallM.deep {P : Program} {f : FuncId} {fs cs vs : List AV} {s : List AObj} {K : AV → List AObj → Nat → Prop} {ds : List D} {r : D} (h : AFn P f ds r) (hd : mapO (deepD s 5) (fs ++ vs ++ cs) = some ds) (hr : flatD r = true) (hk : K (.d r) s 2) : CallM P (.clo f fs cs) vs s K :=
 .inr (.inl ⟨_, _, AFn.deep h hd hr, hk⟩)
theorem FnRuns.frameD {P : Program} {LL : Nat → Code → CC → Prop} {f : FuncId} {xs xs' : List AV} {d : AV} {s' : List AObj} {r : D} (h : FnRuns LL P f xs' [] d s') (hx : freeL xs = some xs') (hr : deepD s' 5 d = some r) (s : List AObj) : FnRuns LL P f xs s (.d r) s := by
 refine ⟨h.enters, fun B k w vs hst hvs => ?_⟩
 obtain ⟨l1, l2⟩ := freeL_get hx
 have hst0 : St LL w.heap.size ⟨k.I, []⟩ [] w := ⟨Nat.le_refl _, rfl, by simp, by simp, by simp⟩
 refine Calls.mono (h.calls w.heap.size ⟨k.I, []⟩ w vs hst0 ⟨hvs.1.trans l1.symm, fun i u c hu hc => ?_⟩) ?_
 · obtain ⟨x, hx1, hx2⟩ := l2 i c hc
   exact (hvs.2 i u x hu hx1).free [] hx2
 · rintro e w' ⟨v, k', rfl, hv, he, hs⟩
   refine ⟨v, ⟨bigI k.I w.heap.size w', k.own⟩, rfl, .d ?_, Ext.called hst.base he.below, hst.called he.below⟩
   refine deepD_ok hs (I' := bigI k.I w.heap.size w') (fun b q u hb hc => ⟨?_, hc⟩) (fun b q u hb hc => ?_) 5 d r v hr hv
   · by_cases hlt : b < w.heap.size
     · rw [bigI_lt _ _ hlt]; have := he.low b hlt; rw [this] at hb; exact hb
     · unfold bigI; rw [if_neg hlt]; exact lt_cellsIn hc
   · unfold bigI; rw [if_neg (by omega)]; exact lt_cellsIn hc
end Go.Bb

namespace Go.Ab
theorem beqT (b : Bool) : (b == true) = b := by cases b <;> rfl
theorem beqF (b : Bool) : (b == false) = !b := by cases b <;> rfl
end Go.Ab
namespace Go.Proofs.Lg
theorem getJ0 {α : Type} (J K : List α) : (J ++ K)[J.length]? = K[0]? := by simp [List.getElem?_append_right]
theorem getJn {α : Type} (J K : List α) (n : Nat) : (J ++ K)[J.length + n]? = K[n]? := by simp [List.getElem?_append_right]
theorem setJ0 {α : Type} (J K : List α) (x : α) : (J ++ K).set J.length x = J ++ K.set 0 x := by simp [List.set_append_right]
theorem setJn {α : Type} (J K : List α) (n : Nat) (x : α) : (J ++ K).set (J.length + n) x = J ++ K.set n x := by simp [List.set_append_right]
theorem zleN (k : Nat) : (((0 : Nat) : Int) ≤ (k : Int)) = True := eq_true (by omega)
end Go.Proofs.Lg
namespace Go.Bb
open Go Go.Ab
def o0 (d : Nat) (i : CI) : CO := ⟨some d, none, i⟩
def om (d t : Nat) : CO := ⟨some d, none, .mov (.t t)⟩
def og (d t : Nat) (b : Bool) (i : CI) : CO := ⟨some d, some (some t, b), i⟩
def oh (d t : Nat) (b : Bool) (n : Nat) : CO := ⟨some d, some (some t, b), .mov (.t n)⟩
def oN (i : CI) : CO := ⟨none, none, i⟩
def xi (n : Int) : X := .c (.d (.sc (.int .i64 n)))
def fo (l : List CO) : CC := .ops false [] l
end Go.Bb
namespace Go.Bb
open Go Go.Ab Go.Proofs.Lg
end Go.Bb

namespace Go.Bb
open Go Go.Ab Go.Proofs.Lg
theorem ai {a b : Prop} (h : a) (k : b) : a ∧ b := ⟨h, k⟩
def wx0 := PLift.up (ai (ai (ai (ai (ai (ai (ai (ai @decide_true @wpK_skip) (ai @wpK_ops (ai @wpK_seq @wpK_cond))) (ai (ai @wpK_block @wpK_loop) (ai @wpK_exit (ai @wpK_ret @wpC_nil)))) (ai (ai (ai
 @CallQ_eq @wpC_cons) (ai @gdC.eq_1 (ai @gdC.eq_2 @gdC.eq_3))) (ai (ai @OpsQ.eq_1 (ai @CI.sem.eq_1 @CI.sem.eq_2)) (ai @CI.sem.eq_3 (ai @CI.sem.eq_4 @CI.sem.eq_5))))) (ai (ai (ai (ai
 @CI.sem.eq_6 @CI.sem.eq_7) (ai @CI.sem.eq_8 (ai @CI.sem.eq_9 @CI.sem.eq_10))) (ai (ai @CI.sem.eq_11 @CI.sem.eq_12) (ai @CI.sem.eq_13 (ai @CI.sem.eq_14 @CI.sem.eq_15)))) (ai (ai (ai
 @CI.sem.eq_16 @CI.sem.eq_17) (ai @CI.sem.eq_18 (ai @CI.sem.eq_19 @CI.sem.eq_20))) (ai (ai @CI.sem.eq_21 (ai @CI.sem.eq_22 @CI.sem.eq_23)) (ai @CI.sem.eq_24 (ai @CI.sem.eq_25
 @CI.touch.eq_1)))))) (ai (ai (ai (ai (ai @CI.touch.eq_2 @CI.touch.eq_3) (ai @CI.touch.eq_4 (ai @CI.touch.eq_5 @CI.touch.eq_6))) (ai (ai @CI.touch.eq_7 @CI.touch.eq_8) (ai
 @CI.touch.eq_9 (ai @CI.touch.eq_10 @CI.touch.eq_11)))) (ai (ai (ai @CI.touch.eq_12 @appT.eq_1) (ai @appT.eq_2 (ai @appT.eq_3 @CI.use.eq_1))) (ai (ai @CI.use.eq_2 (ai @CI.use.eq_3
 @CI.use.eq_4)) (ai @CI.use.eq_5 (ai @AV.vecId.eq_1 @AV.vecId.eq_2))))) (ai (ai (ai (ai @AV.hdl.eq_1 @AV.hdl.eq_2) (ai @AV.hdl.eq_3 (ai @AV.hdl.eq_4 @AV.hdl.eq_5))) (ai (ai
 @AV.hdl.eq_6 @objOf.eq_1) (ai @X.ev.eq_1 (ai @X.ev.eq_2 @evA.eq_1)))) (ai (ai (ai @evA.eq_2 @look.eq_1) (ai @look.eq_2 (ai @putF.eq_1 @putF.eq_2))) (ai (ai @undefA.eq_1 (ai
 @undefA'.eq_1 @ret.eq_1)) (ai @AV.bool?.eq_1 (ai @AV.bool?.eq_2 @AV.int?.eq_1))))))) (ai (ai (ai (ai (ai (ai @AV.int?.eq_2 @AV.num?.eq_1) (ai @AV.num?.eq_2 (ai @AV.str?.eq_1
 @AV.str?.eq_2))) (ai (ai @AV.sc?.eq_1 @AV.sc?.eq_2) (ai @scsA.eq_1 (ai @scsA.eq_2 @scsA.eq_3)))) (ai (ai (ai @slA.eq_1 @slA.eq_2) (ai @slA.eq_3 (ai @slA.eq_4 @slA.eq_5))) (ai (ai
 @boundA.eq_1 (ai @boundA.eq_2 @boundO.eq_1)) (ai @boundO.eq_2 (ai @binS.eq_1 @binS.eq_2))))) (ai (ai (ai (ai @binS.eq_3 @binS.eq_4) (ai @binS.eq_5 (ai @binS.eq_6 @binS.eq_7))) (ai
 (ai @binS.eq_8 @binS.eq_9) (ai @binS.eq_10 (ai @binS.eq_11 @binS.eq_12)))) (ai (ai (ai @binS.eq_13 @binS.eq_14) (ai @binS.eq_15 (ai @binS.eq_16 @binS.eq_17))) (ai (ai @binS.eq_18
 (ai @binS.eq_19 @binS.eq_20)) (ai @binS.eq_21 (ai @binS.eq_22 @binS.eq_23)))))) (ai (ai (ai (ai (ai @binS.eq_24 @binS.eq_25) (ai @fillA.eq_1 (ai @fillA.eq_2 @rdLd.eq_1))) (ai (ai
 @rdLd.eq_2 @rdLd.eq_3) (ai @rdLd.eq_4 (ai @rdFad.eq_1 @rdFad.eq_2)))) (ai (ai (ai @rdFad.eq_3 @rdFad.eq_4) (ai @rdIad.eq_1 (ai @rdIad.eq_2 @rdIad.eq_3))) (ai (ai @rdExt.eq_1 (ai
 @rdExt.eq_2 @rdExt.eq_3)) (ai @rdLen.eq_1 (ai @rdLen.eq_2 @rdLen.eq_3))))) (ai (ai (ai (ai @rdLen.eq_4 @rdLen.eq_5) (ai @rdLen.eq_6 (ai @rdLen.eq_7 @rdLen.eq_8))) (ai (ai
 @rdLen.eq_9 (ai @rdLen.eq_10 @rdIsn.eq_1)) (ai @rdIsn.eq_2 (ai @rdIsn.eq_3 @rdIsn.eq_4)))) (ai (ai (ai @rdIsn.eq_5 @rdSlc.eq_1) (ai @rdSlc.eq_2 (ai @rdLkp.eq_1 @rdLkp.eq_2))) (ai
 (ai @rdLkp.eq_3 (ai @rdBsf.eq_1 @pickM.eq_1)) (ai @pickM.eq_2 (ai @pickD.eq_1 @pickD.eq_2)))))))) (ai (ai (ai (ai (ai (ai (ai @cellsO.eq_1 @cellsO.eq_2) (ai @vecO.eq_1 (ai
 @vecO.eq_2 @mapO'.eq_1))) (ai (ai @mapO'.eq_2 @mapN.eq_1) (ai @mapN.eq_2 (ai @eOf.eq_1 @eOf.eq_2)))) (ai (ai (ai @boolD.eq_1 @intD.eq_1) (ai @srcA.eq_1 (ai @srcA.eq_2 @srcA.eq_3)))
 (ai (ai @putCells.eq_1 (ai @putVec.eq_1 @semSt.eq_1)) (ai @semSt.eq_2 (ai @semSt.eq_3 @semApp.eq_1))))) (ai (ai (ai (ai @semApp.eq_2 @semApp.eq_3) (ai @semApp.eq_4 (ai @semApp.eq_5
 @semBsl.eq_1))) (ai (ai @semMks.eq_1 @semMup.eq_1) (ai @semMup.eq_2 (ai @rowOk.eq_1 @rowOk.eq_2)))) (ai (ai (ai @setE.eq_1 @setE.eq_2) (ai @calleeA.eq_1 (ai @calleeA.eq_2
 @toDs.eq_1))) (ai (ai @toDs.eq_2 (ai @SeqQ.eq_1 @SeqQ.eq_2)) (ai @BlockQ.eq_1 (ai @BlockQ.eq_2 @RetQ.eq_1)))))) (ai (ai (ai (ai (ai @RetQ.eq_2 @RetQ.eq_3) (ai @resA.eq_1 (ai
 @resAll.eq_1 @resAll.eq_2))) (ai (ai @resOne.eq_1 @resOne.eq_2) (ai @tupA.eq_1 (ai @tupA.eq_2 @deepD.eq_1)))) (ai (ai (ai @deepD.eq_2 @deepD.eq_3) (ai @deepD.eq_4 (ai @deepD.eq_5
 @deepD.eq_6))) (ai (ai @deepD.eq_7 (ai @mapO.eq_1 @mapO.eq_2)) (ai @chunk.eq_1 (ai @chunk.eq_2 @AV.toD.eq_1))))) (ai (ai (ai (ai @AV.toD.eq_2 @AV.toL.eq_1) (ai @AV.toL.eq_2 (ai
 @AV.toL.eq_3 @AV.toL.eq_4))) (ai (ai @AV.toL.eq_5 @toLs.eq_1) (ai @toLs.eq_2 (ai @AV.cells.eq_1 @AV.cells.eq_2)))) (ai (ai (ai @AV.cells.eq_3 @AV.row.eq_1) (ai @AV.row.eq_2 (ai
 @AV.row.eq_3 @AV.leaf.eq_1))) (ai (ai @AV.leaf.eq_2 (ai @AV.leaf.eq_3 @AV.leaf.eq_4)) (ai @D.leaf.eq_1 (ai @D.leaf.eq_2 @D.leaf.eq_3))))))) (ai (ai (ai (ai (ai (ai @D.leaf.eq_4
 @D.leaf.eq_5) (ai @Go.Value.oneCell'.eq_1 (ai @Go.Value.oneCell'.eq_2 @Go.Value.oneCell'.eq_3))) (ai (ai @argF.eq_1 @argF.eq_2) (ai @List.map_cons.{0,0} (ai @List.map_nil.{0,0}
 @Option.map_some.{0,0})))) (ai (ai (ai @Option.map_none.{0,0} @Option.bind_some.{0,0}) (ai @Option.bind_none.{0,0} (ai @Option.getD_some.{0} @Option.getD_none.{0}))) (ai (ai
 @Option.isSome_some.{0} (ai @Option.isSome_none.{0} @false_implies)) (ai @true_implies (ai @and_true @true_and))))) (ai (ai (ai (ai @and_self @if_true.{1}) (ai @if_false.{1} (ai
 @List.set_cons_zero.{0} @List.set_cons_succ.{0}))) (ai (ai @List.length_cons.{0} @List.length_nil.{0}) (ai @List.reverse_cons.{0} (ai @List.reverse_nil.{0} @List.nil_append.{0}))))
 (ai (ai (ai @List.cons_append.{0} @List.take_succ_cons.{0}) (ai @List.take_zero.{0} (ai @List.drop_succ_cons.{0} @List.drop_zero.{0}))) (ai (ai @beqT (ai @beqF @Bool.not_true)) (ai
 @Bool.not_false (ai @Bool.true_and @Bool.and_true)))))) (ai (ai (ai (ai (ai @Bool.false_and @Bool.and_false) (ai @Bool.not_not (ai @Bool.false_bne @Bool.true_bne))) (ai (ai
 @List.length_map.{0,0} @Int.toNat_natCast) (ai @Int.natCast_nonneg (ai @List.getElem?_map.{0,0} @eq_self.{1})))) (ai (ai (ai @SubB.eq_1 @SubB.eq_2) (ai @List.getElem?_cons_zero.{0}
 (ai @List.getElem?_cons_succ.{0} @List.length_append.{0}))) (ai (ai @Option.some.injEq.{0} (ai @D.sc.injEq @Go.Value.bool.injEq)) (ai @AV.d.injEq (ai @Go.Value.int.injEq
 @D.sl.injEq))))) (ai (ai (ai (ai @exists_eq_left'.{1} @exists_eq_left.{1}) (ai @Bool.false_or (ai @Bool.true_or @Option.isNone_some.{0}))) (ai (ai @Option.isNone_none.{0} (ai
 @CI.mark.eq_1 @CI.wr.eq_1)) (ai @CI.wr.eq_2 (ai @CI.wr.eq_3 @CI.wr.eq_4)))) (ai (ai (ai @AV.rowId.eq_1 @AV.rowId.eq_2) (ai @AV.rowId.eq_3 (ai @markOf.eq_1 @o0.eq_1))) (ai (ai
 @om.eq_1 (ai @og.eq_1 @oh.eq_1)) (ai @oN.eq_1 (ai @xi.eq_1 @fo.eq_1)))))))))
theorem wx : type_of% wx0.down := wx0.down
def wj0 := PLift.up (ai (ai (ai @getJ0 @getJn) (ai @setJ0 @setJn)) (ai (ai @List.append_assoc.{0} @zleN) (ai @Int.le_refl (ai @List.take_length.{0} @Nat.zero_add))))
theorem wj : type_of% wj0.down := wj0.down
end Go.Bb
