/-
  Part GAW of this claim's proof. Joined by merge.py from the texts of wip/tpl.
-/
import Derived.Test.YtclholnhkhjjaaaGreatGAU
import Derived.Test.YtclholnhkhjjaaaGreatGAV
import Derived.Test.YtclholnhkhjjaaaGreatGAS
import Derived.Test.YtclholnhkhjjaaaGreatGAR
set_option linter.unusedVariables false
set_option linter.unusedSimpArgs false
set_option linter.unnecessarySimpa false
namespace Go.Proofs.Lg
open Go Go.Ab Go.Bb Go.RowKit Go.Proofs.Lh
theorem RD_sc {I : Nat → Nat} {w : World} {u c : Value} (h : RD I w u (.sc c)) : u = c := by cases h; rfl
theorem RDs_sc {I : Nat → Nat} {w : World} {us cs : List Value} (h : RDs I w us (cs.map .sc)) : us = cs := by
 obtain ⟨h1, _, h3⟩ := h
 rw [List.length_map] at h1
 refine List.ext_getElem? fun i => ?_
 by_cases hi : i < us.length
 · have e1 : us[i]? = some us[i] := List.getElem?_eq_getElem hi
   have e2 : cs[i]? = some cs[i] := List.getElem?_eq_getElem (by omega)
   have := RD_sc (h3 i us[i] (.sc cs[i]) e1 (by rw [List.getElem?_map, e2]; rfl))
   rw [e1, e2, this]
 · rw [List.getElem?_eq_none (by omega), List.getElem?_eq_none (by omega)]
theorem flatten_map_sc (xss : List (List Value)) : (xss.map fun xs => xs.map D.sc).flatten = xss.flatten.map D.sc := by
 rw [List.map_flatten]
theorem SlN_of_RD {I : Nat → Nat} {w : World} {v : Value} {sz : Nat} {xss : List (List Value)} (h : RD I w v (.sl sz (xss.map fun xs => xs.map .sc))) : SlN w v sz xss := by
 obtain ⟨a, c, us, rfl, h2, h3, h4, h5, h6⟩ := h.sl_inv
 rw [List.length_map] at h3
 rw [flatten_map_sc] at h5
 have hus := RDs_sc h5
 subst hus
 have hr : ∀ r ∈ xss, r.length = sz := fun r hr => by
   have := h2 (r.map .sc) (List.mem_map.2 ⟨r, hr, rfl⟩)
   rwa [List.length_map] at this
 refine ⟨a, c, by rw [List.length_map], h3, h4, fun hne => ?_⟩
 obtain ⟨b, off, ha, hc⟩ := h6 (by simpa using hne)
 refine ⟨b, off, ha, fun i u hu j x hx => ?_⟩
 have hrow := flatten_row xss hr i u hu
 have hj : j < sz := by rw [← hr u (List.mem_of_getElem? hu)]; exact (List.getElem?_eq_some_iff.1 hx).1
 have hget : xss.flatten[i * sz + j]? = some x := by
   rw [← hrow, List.getElem?_take, if_pos hj, List.getElem?_drop] at hx
   exact hx
 have := (hc (i * sz + j) x hget).2
 rw [← this, Nat.add_assoc]
theorem RD_of_SlN {w : World} {v : Value} {sz : Nat} {xss : List (List Value)} (h : SlN w v sz xss) (hr : ∀ r ∈ xss, r.length = sz ∧ ∀ x ∈ r, x.oneCell' = true) (hsz : 0 < sz) : RD (Go.Bb.cellsIn w) w v (.sl sz (xss.map fun xs => xs.map .sc)) := by
 obtain ⟨a, c, rfl, h3, h4, h6⟩ := h
 have h2 : ∀ r ∈ xss, r.length = sz := fun r h => (hr r h).1
 refine RD.sl_mk (us := xss.flatten) (by simp) (fun r h => ?_) h3 h4 ?_ fun hne => ?_
 · obtain ⟨x, hx, rfl⟩ := List.mem_map.1 h
   rw [List.length_map]; exact h2 x hx
 · rw [flatten_map_sc]
   refine ⟨by rw [List.length_map], fun u hu => ?_, fun i u d hu hd => ?_⟩
   · obtain ⟨r, hr1, hr2⟩ := List.mem_flatten.1 hu
     exact (hr r hr1).2 u hr2
   · rw [List.getElem?_map, hu] at hd
     obtain rfl := Option.some.inj hd
     exact .sc u
 · obtain ⟨b, off, ha, hc⟩ := h6 (by simpa using hne)
   refine ⟨b, off, ha, fun i u hu => ?_⟩
   have hi : i < xss.length * sz := by rw [← flatten_len xss h2]; exact (List.getElem?_eq_some_iff.1 hu).1
   have hq : i / sz < xss.length := Nat.div_lt_of_lt_mul (by rw [Nat.mul_comm]; exact hi)
   have hrow := flatten_row xss h2 (i / sz) xss[i / sz] (List.getElem?_eq_getElem hq)
   have hm : i % sz < sz := Nat.mod_lt _ hsz
   have hdm : i / sz * sz + i % sz = i := by rw [Nat.mul_comm]; exact Nat.div_add_mod i sz
   have hx : xss[i / sz][i % sz]? = some u := by
     rw [← hrow, List.getElem?_take, if_pos hm, List.getElem?_drop, hdm]; exact hu
   have := hc (i / sz) _ (List.getElem?_eq_getElem hq) (i % sz) u hx
   rw [Nat.add_assoc, hdm] at this
   exact ⟨lt_cellsIn this, this⟩
structure GrOk (g : Gr) : Prop where
 okl : ∀ x ∈ g.lines, x.ok
 oke : ∀ e ∈ g.edges, I64 e.1 ∧ I64 e.2
 few : g.lines.length ≤ 1000000
 fewe : g.edges.length ≤ 1000000
theorem dGraph_inv {I : Nat → Nat} {w : World} {v : Value} {g : Gr} (hg : GrOk g) (h : RD I w v (dGraph g)) : ∃ vl ve, v = .agg #[vl, ve] ∧ GrAt w vl ve g := by
 unfold dGraph at h
 cases h with
 | agg us ds h1 h2 h3 =>
   match us, h1 with
   | [vl, ve], _ =>
     have e1 := h3 0 vl _ rfl rfl
     have e2 := h3 1 ve _ rfl rfl
     refine ⟨vl, ve, rfl, ⟨SlN_of_RD (I := I) (xss := g.lines.map Vtx.cells) ?_, SlN_of_RD (I := I) (xss := g.edges.map edgeCells) ?_, hg.okl, hg.oke, hg.few, hg.fewe⟩⟩
     · rw [List.map_map]; exact e1
     · rw [List.map_map]; exact e2
theorem enters_fn {P : Program} {f : FuncId} {fn : Func} {c : Code} (hfn : P.funcs[f]? = some fn) (hb : fn.body = some c) (hn : (fn.name == "runtime.NumGoroutine") = false) : Enters P f := fun args w => by
 have hn' : fn.name ≠ "runtime.NumGoroutine" := by simpa using hn
 simp [callFunc, hfn, hn', hb, mark]
theorem refCheck_fn {g : Gr} (hg : GrOk g) : AFn Tryz.prog 38 [dGraph g] (.sc (.int .i64 g.check)) := by
 refine ⟨enters_fn Tryz.func38 rfl (by rfl), fun I w vs hl hv => ?_⟩
 match vs, hl with
 | [v], _ =>
   obtain ⟨vl, ve, rfl, hat⟩ := dGraph_inv hg (hv 0 v _ rfl rfl)
   refine (refCheck_any vl ve g w hat).mono fun e w' h => ?_
   obtain ⟨rfl, hb⟩ := h
   exact ⟨_, rfl, .sc _, hb⟩
end Go.Proofs.Lg

namespace Go.Proofs.Lg
def addE (R : List (List Bool)) (e : Int × Int) : List (List Bool) := if 0 ≤ e.1 ∧ 0 ≤ e.2 then putR R e.1.toNat e.2.toNat true else R
def edgeT (n : Nat) (es : List (Int × Int)) : List (List Bool) := es.foldl addE (List.replicate n (List.replicate n false))
theorem edgeT_take {n : Nat} {es : List (Int × Int)} {k : Nat} (hk : k < es.length) : edgeT n (es.take (k + 1)) = addE (edgeT n (es.take k)) es[k] := by
 rw [List.take_succ_eq_append_getElem hk]
 unfold edgeT
 rw [List.foldl_append]; rfl
def IsE (es : List (Int × Int)) (i j : Nat) : Prop := ((i : Int), (j : Int)) ∈ es
theorem edgeT_go {n : Nat} : ∀ (es : List (Int × Int)) (R : List (List Bool)), okEdges n es → Sq n R → Sq n (es.foldl addE R) ∧ ∀ i j, i < n → j < n → (rel (es.foldl addE R) i j = true ↔ rel R i j = true ∨ IsE es i j)
 | [], R, _, hq => ⟨hq, fun i j _ _ => by simp [IsE]⟩
 | e :: es, R, ho, hq => by
   have he := ho e (by simp)
   have hq2 : Sq n (addE R e) := by
     unfold addE; split
     · exact sq_putR hq (by omega) _
     · exact hq
   obtain ⟨h1, h2⟩ := edgeT_go es (addE R e) (fun x hx => ho x (by simp [hx])) hq2
   refine ⟨h1, fun i j hi hj => ?_⟩
   rw [List.foldl_cons, h2 i j hi hj]
   have : rel (addE R e) i j = true ↔ rel R i j = true ∨ e = ((i : Int), (j : Int)) := by
     unfold addE
     obtain ⟨a, b⟩ := e
     dsimp only at he ⊢
     split
     · rw [rel_putR hq (by omega) (by omega)]
       split
       · rename_i hh; simp; right; omega
       · rename_i hh
         simp only [Prod.mk.injEq]
         constructor
         · exact .inl
         · rintro (h | h)
           · exact h
           · exact absurd ⟨by omega, by omega⟩ hh
     · rename_i hh
       simp only [Prod.mk.injEq]
       constructor
       · exact .inl
       · rintro (h | h)
         · exact h
         · exact absurd ⟨by omega, by omega⟩ hh
   rw [this]
   unfold IsE
   rw [List.mem_cons]
   constructor
   · rintro ((h | h) | h)
     · exact .inl h
     · exact .inr (.inl h.symm)
     · exact .inr (.inr h)
   · rintro (h | h | h)
     · exact .inl (.inl h)
     · exact .inl (.inr h.symm)
     · exact .inr h
theorem rel_repl (n i j : Nat) : rel (List.replicate n (List.replicate n false)) i j = false := by
 unfold rel
 by_cases hi : i < n
 · have : (List.replicate n (List.replicate n false)).getD i [] = List.replicate n false := by simp [List.getD_eq_getElem?_getD, List.getElem?_replicate, hi]
   rw [this]; exact getD_repl n j
 · have : (List.replicate n (List.replicate n false)).getD i [] = [] := by simp [List.getD_eq_getElem?_getD, List.getElem?_replicate, hi]
   rw [this]; rfl
theorem fol_mem : ∀ (es : List (Int × Int)) (rows : List (List Int)) (i : Nat) (x : Int), i < rows.length → (x ∈ (es.foldl folStep rows).getD i [] ↔ x ∈ rows.getD i [] ∨ (0 ≤ x ∧ ((i : Int), x) ∈ es))
 | [], rows, i, x, _ => by simp
 | e :: es, rows, i, x, hi => by
   rw [List.foldl_cons, fol_mem es _ i x (by rw [folStep_length]; exact hi)]
   obtain ⟨a, b⟩ := e
   have : x ∈ (folStep rows (a, b)).getD i [] ↔ x ∈ rows.getD i [] ∨ (0 ≤ x ∧ ((i : Int), x) = (a, b)) := by
     unfold folStep
     dsimp only
     split
     · rename_i hh
       rw [List.getD_eq_getElem?_getD, List.getD_eq_getElem?_getD, List.getElem?_modify, List.getElem?_eq_getElem hi]
       simp only [Option.map_eq_map, Option.map_some, Option.getD_some, Prod.mk.injEq]
       split
       · rename_i e
         rw [List.mem_append, List.mem_singleton]
         constructor
         · rintro (h | h)
           · exact .inl h
           · exact .inr ⟨by omega, by omega, h⟩
         · rintro (h | h)
           · exact .inl h
           · exact .inr h.2.2
       · rename_i e
         constructor
         · exact .inl
         · rintro (h | h)
           · exact h
           · exact absurd (by omega) e
     · rename_i hh
       simp only [Prod.mk.injEq]
       constructor
       · exact .inl
       · rintro (h | h)
         · exact h
         · exact absurd ⟨by omega, by omega⟩ hh
   rw [this, List.mem_cons]
   constructor
   · rintro ((h | ⟨h, h'⟩) | ⟨h, h'⟩)
     · exact .inl h
     · exact .inr ⟨h, .inl h'⟩
     · exact .inr ⟨h, .inr h'⟩
   · rintro (h | ⟨h, h' | h'⟩)
     · exact .inl (.inl h)
     · exact .inl (.inr ⟨h, h'⟩)
     · exact .inr ⟨h, h'⟩
theorem fol_E {g : Gr} {i : Nat} (hi : i < g.lines.length) (x : Int) : x ∈ g.followers.getD i [] ↔ 0 ≤ x ∧ ((i : Int), x) ∈ g.edges := by
 unfold Gr.followers
 rw [fol_mem _ _ i x (by simpa using hi)]
 have : (List.replicate g.lines.length ([] : List Int)).getD i [] = [] := by
   rw [List.getD_eq_getElem?_getD, List.getElem?_replicate]; split <;> rfl
 rw [this]; simp
theorem sq_ext {n : Nat} {R S : List (List Bool)} (hR : Sq n R) (hS : Sq n S) (h : ∀ i j, i < n → j < n → rel R i j = rel S i j) : R = S := by
 refine List.ext_getElem (by rw [hR.1, hS.1]) fun i h1 h2 => ?_
 have l1 : R[i].length = n := hR.2 _ (List.getElem_mem _)
 have l2 : S[i].length = n := hS.2 _ (List.getElem_mem _)
 refine List.ext_getElem (by rw [l1, l2]) fun j g1 g2 => ?_
 have := h i j (by rw [← hR.1]; exact h1) (by omega)
 unfold rel at this
 simpa [List.getD_eq_getElem?_getD, List.getElem?_eq_getElem, h1, h2, g1, g2] using this
theorem war_reach {g : Gr} (hc : g.check = 0) : war g.lines.length (edgeT g.lines.length g.edges) g.lines.length = g.reach := by
 have hok := (Gr.check_ok hc).2
 generalize hn : g.lines.length = n at hok
 have hq0 : Sq n (List.replicate n (List.replicate n false)) := ⟨by simp, fun r hr => by simp at hr; simp [hr.2]⟩
 obtain ⟨hq, he⟩ := edgeT_go g.edges _ hok hq0
 have he' : ∀ i j, i < n → j < n → (rel (edgeT n g.edges) i j = true ↔ IsE g.edges i j) := fun i j hi hj => by
   have := he i j hi hj
   rw [rel_repl] at this
   unfold edgeT
   rw [this]; simp
 have hW : WInv (IsE g.edges) n (edgeT n g.edges) (edgeT n g.edges) := ⟨hq, fun i j hi hj h => .edge ((he' i j hi hj).1 h), fun _ _ h => h⟩
 obtain ⟨h1, h2⟩ := war_inv hW (fun i j hi hj h => (he' i j hi hj).2 h) n (Nat.le_refl _)
 have hdim : g.dim = n := by unfold Gr.dim; rw [if_pos hc, hn]
 refine sq_ext h1.sq (by have := g.sq; rwa [hdim] at this) fun i j hi hj => ?_
 have hfl := g.followers_length
 rw [hn] at hfl
 have hval := Gr.followers_valid (Gr.check_ok hc).2
 rw [hfl] at hval
 have hreach : rel g.reach i j = (fromRow g.followers i).getD j false := by
   unfold Gr.reach
   rw [if_pos hc, hn, rel_rows _ _ _ _ hi]
 rw [hreach, Bool.eq_iff_iff]
 obtain ⟨f1, f2, f3⟩ := fromRow_spec g.followers n hfl hval i hi
 have hE : ∀ {a b : Nat}, a < n → IsE g.edges a b → (b : Int) ∈ g.followers.getD a [] := fun ha h => (fol_E (by omega) _).2 ⟨by omega, h⟩
 constructor
 · intro h
   have hp := h1.sound i j hi hj h
   clear h hj hreach
   induction hp with
   | edge h => have := f1 _ (hE hi h); simpa using this
   | step h3 h4 h5 ih => have := f2 _ ih _ (hE h4 h5); simpa using this
 · intro h
   refine h2 i j hi hj ?_
   refine f3 (fun j => PathB (IsE g.edges) n i j) (fun x hx => ?_) (fun k hk x hx => ?_) j h
   · obtain ⟨x0, x1⟩ := (fol_E (by omega) x).1 hx
     refine .edge ?_
     unfold IsE
     rw [Int.toNat_of_nonneg x0]; exact x1
   · have hkn : k < n := by
       rcases Nat.lt_or_ge k n with h | h
       · exact h
       · rw [List.getD_eq_getElem?_getD, List.getElem?_eq_none (by omega)] at hx; cases hx
     obtain ⟨x0, x1⟩ := (fol_E (by omega) x).1 hx
     refine .step hk hkn ?_
     unfold IsE
     rw [Int.toNat_of_nonneg x0]; exact x1
end Go.Proofs.Lg

namespace Go.Proofs.Lg
open Go Go.Ab Go.Bb Go.RowKit Go.Proofs.Lh
def rblk (r : List Bool) : AObj := .vec 4 1 (r.map fun b => .d (.sc (.bool b)))
def hands (n m : Nat) : List AV := (List.range m).map fun i => .vec (2 + 2 * i) n 1
structure Tab (A : AObj) (n m : Nat) (R : List (List Bool)) (s : List AObj) : Prop where
 a : s[0]? = some A
 v : s[1]? = some (.vec 140 1 (hands n m))
 r : ∀ (i : Nat) (r : List Bool), R[i]? = some r → s[2 + 2 * i]? = some (rblk r)
 len : R.length = m
 row : ∀ r ∈ R, r.length = n
theorem hands_len (n m : Nat) : (hands n m).length = m := by simp [hands]
theorem hands_get {n m i : Nat} (h : i < m) : (hands n m)[i]? = some (.vec (2 + 2 * i) n 1) := by simp [hands, h]
theorem Tab.lt {A : AObj} {n m : Nat} {R : List (List Bool)} {s : List AObj} (h : Tab A n m R s) : 1 < s.length := (List.getElem?_eq_some_iff.1 h.v).1
theorem Tab.app {A : AObj} {n m : Nat} {R : List (List Bool)} {s : List AObj} (h : Tab A n m R s) (K : List AObj) : Tab A n m R (s ++ K) where
 a := by rw [List.getElem?_append_left (by have := h.lt; omega)]; exact h.a
 v := by rw [List.getElem?_append_left h.lt]; exact h.v
 r i r hr := by rw [List.getElem?_append_left (List.getElem?_eq_some_iff.1 (h.r i r hr)).1]; exact h.r i r hr
 len := h.len
 row := h.row
theorem Tab.row_get {A : AObj} {n m : Nat} {R : List (List Bool)} {s : List AObj} (h : Tab A n m R s) {i : Nat} (hi : i < m) : ∃ r, R[i]? = some r ∧ r.length = n ∧ s[2 + 2 * i]? = some (rblk r) ∧ R.getD i [] = r := by
 have hil : i < R.length := by rw [h.len]; exact hi
 have hr : R[i]? = some R[i] := List.getElem?_eq_getElem hil
 exact ⟨_, hr, h.row _ (List.getElem_mem _), h.r i _ hr, by simp [List.getD_eq_getElem?_getD, hr]⟩
theorem Tab.sq {A : AObj} {n : Nat} {R : List (List Bool)} {s : List AObj} (h : Tab A n n R s) : Sq n R := ⟨h.len, h.row⟩
theorem rblk_set (r : List Bool) (j : Nat) (b : Bool) (hj : j < r.length) : AObj.vec 4 1 ((r.map fun b => AV.d (.sc (.bool b))).take j ++ [.d (.sc (.bool b))] ++ (r.map fun b => AV.d (.sc (.bool b))).drop (j + 1)) = rblk (r.set j b) := by
 unfold rblk
 congr 1
 rw [List.map_set, List.set_eq_take_append_cons_drop, if_pos (by simpa using hj)]
 simp
theorem Tab.put {A : AObj} {n : Nat} {R : List (List Bool)} {s : List AObj} (h : Tab A n n R s) {i j : Nat} (hi : i < n) (b : Bool) : Tab A n n (putR R i j b) (s.set (2 + 2 * i) (rblk ((R.getD i []).set j b))) where
 a := by rw [List.getElem?_set_ne (by omega)]; exact h.a
 v := by rw [List.getElem?_set_ne (by omega)]; exact h.v
 r x r hr := by
   unfold putR at hr
   by_cases hx : x = i
   · subst hx
     have hlt := (List.getElem?_eq_some_iff.1 (h.row_get hi).choose_spec.2.2.1).1
     rw [List.getElem?_set_self hlt]
     rw [List.getElem?_set_self (by rw [h.len]; exact hi)] at hr
     obtain rfl := Option.some.inj hr
     rfl
   · rw [List.getElem?_set_ne (by omega)] at hr ⊢
     exact h.r x r hr
 len := by unfold putR; rw [List.length_set]; exact h.len
 row r hr := (sq_putR h.sq hi b).2 r hr
theorem Tab.row_rel {A : AObj} {n : Nat} {R : List (List Bool)} {s : List AObj} (h : Tab A n n R s) {i j : Nat} (hi : i < n) (hj : j < n) :
   ∃ r, r.length = n ∧ s[2 + 2 * i]? = some (rblk r) ∧ R.getD i [] = r ∧ r[j]? = some (rel R i j) := by
 obtain ⟨r, h1, h2, h3, h4⟩ := h.row_get hi
 obtain ⟨r', g1, g2⟩ := rel_get h.sq hi hj
 rw [h1] at g1; obtain rfl := Option.some.inj g1
 exact ⟨r, h2, h3, h4, g2⟩
theorem mapO_map {α β γ : Type} {g : β → Option γ} (f : α → β) (k : α → γ) : ∀ (l : List α), (∀ x ∈ l, g (f x) = some (k x)) → mapO g (l.map f) = some (l.map k)
 | [], _ => rfl
 | x :: l, h => by
   rw [List.map_cons, mapO, h x (by simp), mapO_map f k l fun y hy => h y (by simp [hy])]
   rfl
theorem chunk_one {α β : Type} (f : α → β) : ∀ (l : List α), chunk 1 l.length (l.map f) = l.map fun x => [f x]
 | [] => rfl
 | x :: l => by
   rw [List.length_cons, chunk, List.map_cons, List.drop_succ_cons, List.drop_zero, chunk_one f l]
   rfl
theorem deep_rblk (s : List AObj) {i f : Nat} {r : List Bool} (h : s[i]? = some (rblk r)) : deepD s (f + 2) (.vec i r.length 1) = some (.sl 1 (r.map fun b => [.sc (.bool b)])) := by
 rw [deepD, h]
 simp only [rblk, List.length_map, Nat.mul_one]
 rw [if_pos ⟨trivial, by omega, trivial⟩, mapO_map (fun b => AV.d (.sc (.bool b))) (fun b => D.sc (.bool b)) r (fun b _ => rfl)]
 rw [Option.map_some]
 rw [chunk_one]
theorem Tab.deep {A : AObj} {n : Nat} {R : List (List Bool)} {s : List AObj} (h : Tab A n n R s) : deepD s 5 (.vec 1 n 1) = some (dRows R) := by
 rw [deepD, h.v]
 have hm : mapO (deepD s 4) (hands n n) = some (R.map fun r => .sl 1 (r.map fun b => [.sc (.bool b)])) := by
   have e : hands n n = (List.range n).map fun i => AV.vec (2 + 2 * i) n 1 := rfl
   have e2 : (R.map fun r => D.sl 1 (r.map fun b => [.sc (.bool b)])) = (List.range n).map fun i => D.sl 1 ((R.getD i []).map fun b => [.sc (.bool b)]) := by
     refine List.ext_getElem? fun i => ?_
     rw [List.getElem?_map, List.getElem?_map]
     by_cases hi : i < n
     · obtain ⟨r, h1, _, _, h4⟩ := h.row_get hi
       rw [h1, List.getElem?_range hi]; simp only [Option.map_some, h4]
     · rw [List.getElem?_eq_none (by rw [h.len]; omega), List.getElem?_eq_none (by simpa using hi)]; rfl
   rw [e, e2]
   refine mapO_map _ _ _ fun i hi => ?_
   obtain ⟨r, h1, h2, h3, h4⟩ := h.row_get (List.mem_range.1 hi)
   rw [h4, ← h2]
   exact deep_rblk s h3
 dsimp only
 rw [if_pos ⟨rfl, by omega, by rw [hands_len]; omega⟩, hm]
 rw [Option.map_some]
 have : n = R.length := h.len.symm
 subst this
 rw [chunk_one]
 rfl
end Go.Proofs.Lg

namespace Go.Proofs.Lg
open Go Go.Ab Go.Bb Go.RowKit Go.Proofs.Lh
theorem Tab.more {A : AObj} {n m : Nat} {R : List (List Bool)} {s : List AObj} (h : Tab A n m R s) (hs : s.length = 2 + 2 * m) {y : AObj} : Tab A n (m + 1) (R ++ [List.replicate n false]) ((s ++ [.vec 4 1 (List.replicate n (.d (.sc (.bool false)))), y]).set 1 (.vec 140 1 (hands n m ++ [.vec s.length n 1]))) where
 a := by
   rw [List.getElem?_set_ne (by omega)]
   exact (h.app _).a
 v := by
   rw [List.getElem?_set_self (by simp)]
   unfold hands
   rw [List.range_succ, List.map_append, hs]; rfl
 r i r hr := by
   rw [List.getElem?_set_ne (by omega)]
   rw [List.getElem?_append] at hr
   split at hr
   · exact (h.app _).r i r hr
   · rename_i hi
     have hi2 : i = m := by
       have := (List.getElem?_eq_some_iff.1 hr).1
       have := h.len
       simp at *; omega
     subst hi2
     have : r = List.replicate n false := by rw [h.len] at hr; simpa using hr.symm
     subst this
     rw [← hs]
     rw [List.getElem?_append_right (Nat.le_refl _)]
     simp [rblk]
 len := by simp [h.len]
 row r hr := by
   rcases List.mem_append.1 hr with hr | hr
   · exact h.row r hr
   · simp at hr; subst hr; simp
theorem rblk_set' (r : List Bool) (j : Nat) (b : Bool) (hj : j < r.length) : rblk (r.set j b) = .vec 4 1 ((r.take j).map (fun b => AV.d (.sc (.bool b))) ++ AV.d (.sc (.bool b)) :: (r.drop (j + 1)).map fun b => AV.d (.sc (.bool b))) := by
 rw [← rblk_set r j b hj]
 simp [List.map_take, List.map_drop]
theorem repl_snoc (n k : Nat) : List.replicate k (List.replicate n false) ++ [List.replicate n false] = List.replicate (k + 1) (List.replicate n false) := by
 rw [← List.replicate_succ']
set_option maxHeartbeats 1000000 in
theorem Reaches_fn {g : Gr} (hg : GrOk g) (hc : g.check = 0) : AFn Tryz.prog 77 [dGraph g] (dRows (war g.lines.length (edgeT g.lines.length g.edges) g.lines.length)) := by
 have hck := refCheck_fn hg
 rw [hc] at hck
 have hfew := hg.few
 have hrange : ∀ e ∈ g.edges, e.1 < (g.lines.length : Int) ∧ e.2 < (g.lines.length : Int) := fun e he => by have := (Gr.check_ok hc).2 e he; exact ⟨this.1.2, this.2.1.2⟩
 have hfewe := hg.fewe
 have hlen : (g.lines.map vrow).length = g.lines.length := List.length_map _
 refine AFn_of (F := k_refReaches) (okb_refReaches.trans (by kernel_rfl)) (by simp [k_refReaches]) ?_
 have q1 : ((0 : Int) != 0) = false := by decide
 simp only [k_refReaches, dGraph, dLines, dEdges, dNat, dBool, ↓Both_true, ↓Both_false, wx, reduceCtorEq, reduceIte, Nat.reduceAdd, Nat.reduceEqDiff, Nat.reduceLT, Nat.reduceLeDiff, wj, ← List.map_take, ← List.map_drop]
 refine CallM.data hck rfl ?_
 simp only [q1, ↓Both_true, ↓Both_false, wx, reduceCtorEq, reduceIte, Nat.reduceAdd, Nat.reduceEqDiff, Nat.reduceLT, Nat.reduceLeDiff, wj, ← List.map_take, ← List.map_drop]
 generalize hls : (g.lines.map vrow) = L at hlen
 generalize g.lines.length = n at *
 refine LoopK.at (fun b : Nat × List AObj => [(5, .d (.sc (.int .i64 b.1))), (4, .d (.sc (.int .i64 n))), (1, .ptr 0 0), (3, .vec 1 b.1 1)]) (fun b => b.2)
   (fun m b => m + b.1 = n ∧ b.2.length = 2 + 2 * b.1 ∧ Tab (.cells [.d (.sl 35 L), .d (.sl 2 (g.edges.map erow))]) n b.1 (List.replicate b.1 (List.replicate n false)) b.2) n (0, [.cells [.d (.sl 35 L), .d (.sl 2 (g.edges.map erow))], .vec 140 1 []]) (by simp [SubB, Go.Bb.look, hlen]) rfl ⟨rfl, rfl, ⟨rfl, rfl, by simp, rfl, by simp⟩⟩ ?_
 rintro m ⟨k, s⟩ ⟨hm, hsl, ht⟩
 dsimp only at hm hsl ht ⊢
 by_cases hlt : k < n
 · have h1 : decide ((k : Int) < (n : Int)) = true := by simpa using hlt
   have h3 : IntKind.i64.wrap ((k : Int) + 1) = ((k + 1 : Nat) : Int) := wrapN (by omega) (by omega)
   have n1 : (n : Int) * ((1 : Nat) : Int) ≤ 140737488355328 := by omega
   have n2 : (n : Int) ≤ 140737488355328 := by omega
   have hV : ∀ K, (s ++ K)[1]? = some (.vec 140 1 (hands n k)) := fun K => (ht.app K).v
   have n3 : (k + 1) * 24 ≤ 140737488355328 := by omega
   have n4 : k ≤ 9223372036854775806 := by omega
   have hh := hands_len n k
   have hmore := ht.more hsl (y := .vec 140 1 [.vec s.length n 1])
   rw [repl_snoc] at hmore
   simp only [roomOk, h1, h3, n1, n2, n3, n4, hV, hh, Nat.mul_one, ↓Both_true, ↓Both_false, wx, reduceCtorEq, reduceIte, Nat.reduceAdd, Nat.reduceEqDiff, Nat.reduceLT, Nat.reduceLeDiff, wj, ← List.map_take, ← List.map_drop]
   refine ⟨m - 1, (k + 1, _), by omega, ⟨rfl, rfl⟩, rfl, by dsimp only; omega, ?_, hmore⟩
   simp only [List.length_set, List.length_append, List.length_cons, List.length_nil]; omega
 · have hk : k = n := by omega
   subst hk
   have h1 : decide ((k : Int) < (k : Int)) = false := by simp
   simp only [h1, ↓Both_true, ↓Both_false, wx, reduceCtorEq, reduceIte, Nat.reduceAdd, Nat.reduceEqDiff, Nat.reduceLT, Nat.reduceLeDiff, wj, ← List.map_take, ← List.map_drop]
   clear hm h1 hlt
   refine LoopK.at (fun b : Nat × List AObj => [(6, .d (.sc (.int .i64 b.1))), (4, .d (.sc (.int .i64 k))), (1, .ptr 0 0), (3, .vec 1 k 1)]) (fun b => b.2)
     (fun m b => m + b.1 = g.edges.length ∧ Tab (.cells [.d (.sl 35 L), .d (.sl 2 (g.edges.map erow))]) k k (edgeT k (g.edges.take b.1)) b.2) g.edges.length (0, s) (by simp [SubB, Go.Bb.look]) rfl ⟨rfl, ht⟩ ?_
   clear hsl ht s m
   rintro m ⟨q, s⟩ ⟨hm, ht⟩
   dsimp only at hm ht ⊢
   have hA : s[0]? = some (.cells [.d (.sl 35 L), .d (.sl 2 (g.edges.map erow))]) := ht.a
   by_cases hlt : q < g.edges.length
   · have h1 : decide ((q : Int) < (g.edges.length : Int)) = true := by simpa using hlt
     have h2 : g.edges[q]? = some g.edges[q] := List.getElem?_eq_getElem hlt
     have h3 : IntKind.i64.wrap ((q : Int) + 1) = ((q + 1 : Nat) : Int) := wrapN (by omega) (by omega)
     have h4 := edgeT_take (n := k) hlt
     have hin := hrange g.edges[q] (List.getElem_mem _)
     generalize g.edges[q] = e at h2 h4 hin
     obtain ⟨e1, e2⟩ := e
     dsimp only at hin
     have hA' : ∀ K, (s ++ K)[0]? = some (.cells [.d (.sl 35 L), .d (.sl 2 (g.edges.map erow))]) := fun K => (ht.app K).a
     have hV : ∀ K, (s ++ K)[1]? = some (.vec 140 1 (hands k k)) := fun K => (ht.app K).v
     have hh := hands_len k k
     have hfin : ∀ {s' : List AObj}, Tab (.cells [.d (.sl 35 L), .d (.sl 2 (g.edges.map erow))]) k k (addE (edgeT k (g.edges.take q)) (e1, e2)) s' → ∃ (m' : Nat) (b' : Nat × List AObj), m' < m ∧ ((q + 1 : Nat) : Int) = (b'.1 : Int) ∧ s' = b'.2 ∧ m' + b'.1 = g.edges.length ∧ Tab (.cells [.d (.sl 35 L), .d (.sl 2 (g.edges.map erow))]) k k (edgeT k (g.edges.take b'.1)) b'.2 := fun {s'} h =>
       ⟨m - 1, (q + 1, s'), by omega, rfl, rfl, by dsimp only; omega, by dsimp only; rw [h4]; exact h⟩
     cases g1 : decide (e1 ≥ 0) with
     | false =>
       have hadd : addE (edgeT k (g.edges.take q)) (e1, e2) = edgeT k (g.edges.take q) := if_neg (by simp at g1 ⊢; omega)
       rw [hadd] at hfin
       simp only [hA, hA', h1, h2, h3, g1, erow, ↓Both_true, ↓Both_false, wx, reduceCtorEq, reduceIte, Nat.reduceAdd, Nat.reduceEqDiff, Nat.reduceLT, Nat.reduceLeDiff, wj, ← List.map_take, ← List.map_drop]
       exact hfin (ht.app _)
     | true =>
       cases g2 : decide (e2 ≥ 0) with
       | false =>
         have hadd : addE (edgeT k (g.edges.take q)) (e1, e2) = edgeT k (g.edges.take q) := if_neg (by simp at g2 ⊢; omega)
         rw [hadd] at hfin
         simp only [hA, hA', h1, h2, h3, g1, g2, erow, ↓Both_true, ↓Both_false, wx, reduceCtorEq, reduceIte, Nat.reduceAdd, Nat.reduceEqDiff, Nat.reduceLT, Nat.reduceLeDiff, wj, ← List.map_take, ← List.map_drop]
         exact hfin (ht.app _)
       | true =>
         obtain ⟨i, rfl⟩ : ∃ i : Nat, e1 = (i : Int) := ⟨e1.toNat, by simp at g1; omega⟩
         obtain ⟨j, rfl⟩ : ∃ j : Nat, e2 = (j : Int) := ⟨e2.toNat, by simp at g2; omega⟩
         have hik : i < k := by omega
         have hjk : j < k := by omega
         have hadd : addE (edgeT k (g.edges.take q)) ((i : Int), (j : Int)) = putR (edgeT k (g.edges.take q)) i j true := if_pos ⟨by dsimp only; omega, by dsimp only; omega⟩
         rw [hadd] at hfin
         have hhi := hands_get (n := k) hik
         obtain ⟨r, r1, r2, r3⟩ := ht.row_rel hik hjk
         have hr : ∀ K, (s ++ K)[2 + 2 * i]? = some (.vec 4 1 (r.map fun b => .d (.sc (.bool b)))) := fun K => by
           obtain ⟨x, x1, x2, x3⟩ := (ht.app K).row_get hik
           rw [x3.1, ← x3.2, r3.1]; rfl
         have hjr : j + 1 ≤ k := by omega
         have hput := rblk_set' r j true (by omega)
         simp only [hA, hA', hV, h1, h2, h3, g1, g2, hh, hik, hjk, hhi, hr, r1, hjr, erow, Nat.mul_one, decide_true, ↓Both_true, ↓Both_false, wx, reduceCtorEq, reduceIte, Nat.reduceAdd, Nat.reduceEqDiff, Nat.reduceLT, Nat.reduceLeDiff, wj, ← List.map_take, ← List.map_drop]
         rw [← hput, ← r3.1]
         exact ⟨(ordF_coarse (by simp only [List.map_cons, List.map_nil, coarse_rd, coarse_wr]; rfl)), hfin ((ht.app _).put hik true)⟩
   · have hq : g.edges.take q = g.edges := List.take_of_length_le (by omega)
     rw [hq] at ht
     have h1 : decide ((q : Int) < (g.edges.length : Int)) = false := by simpa using hlt
     simp only [hA, h1, ↓Both_true, ↓Both_false, wx, reduceCtorEq, reduceIte, Nat.reduceAdd, Nat.reduceEqDiff, Nat.reduceLT, Nat.reduceLeDiff, wj, ← List.map_take, ← List.map_drop]
     clear hm hq h1 hlt hA
     generalize edgeT k g.edges = R at ht ⊢
     refine LoopK.at (fun b : Nat × List AObj => [(8, .d (.sc (.int .i64 b.1))), (4, .d (.sc (.int .i64 k))), (3, .vec 1 k 1)]) (fun b => b.2)
       (fun m b => m + b.1 = k ∧ Tab (.cells [.d (.sl 35 L), .d (.sl 2 (g.edges.map erow))]) k k (war k R b.1) b.2) k (0, s) (by simp [SubB, Go.Bb.look]) rfl ⟨rfl, ht⟩ ?_
     clear ht s m
     rintro m ⟨x, s⟩ ⟨hm, ht⟩
     dsimp only at hm ht ⊢
     by_cases hxk : x < k
     · have h1 : decide ((x : Int) < (k : Int)) = true := by simpa using hxk
       have h3 : IntKind.i64.wrap ((x : Int) + 1) = ((x + 1 : Nat) : Int) := wrapN (by omega) (by omega)
       have hws := war_succ k R x
       generalize war k R x = R1 at ht hws
       simp only [h1, ↓Both_true, ↓Both_false, wx, reduceCtorEq, reduceIte, Nat.reduceAdd, Nat.reduceEqDiff, Nat.reduceLT, Nat.reduceLeDiff, wj, ← List.map_take, ← List.map_drop]
       refine LoopK.at (fun b : Nat × List AObj => [(9, .d (.sc (.int .i64 b.1))), (8, .d (.sc (.int .i64 x))), (4, .d (.sc (.int .i64 k))), (3, .vec 1 k 1)]) (fun b => b.2)
         (fun m b => m + b.1 = k ∧ Tab (.cells [.d (.sl 35 L), .d (.sl 2 (g.edges.map erow))]) k k (warI k x R1 b.1) b.2) k (0, s) (by simp [SubB, Go.Bb.look]) rfl ⟨rfl, ht⟩ ?_
       clear ht s
       rintro m1 ⟨i, s⟩ ⟨hm1, ht⟩
       dsimp only at hm1 ht ⊢
       by_cases hik : i < k
       · have g1 : decide ((i : Int) < (k : Int)) = true := by simpa using hik
         have g3 : IntKind.i64.wrap ((i : Int) + 1) = ((i + 1 : Nat) : Int) := wrapN (by omega) (by omega)
         have hwi := warI_succ k x R1 i
         generalize warI k x R1 i = R2 at ht hwi
         simp only [g1, ↓Both_true, ↓Both_false, wx, reduceCtorEq, reduceIte, Nat.reduceAdd, Nat.reduceEqDiff, Nat.reduceLT, Nat.reduceLeDiff, wj, ← List.map_take, ← List.map_drop]
         refine LoopK.at (fun b : Nat × List AObj => [(10, .d (.sc (.int .i64 b.1))), (9, .d (.sc (.int .i64 i))), (8, .d (.sc (.int .i64 x))), (4, .d (.sc (.int .i64 k))), (3, .vec 1 k 1)]) (fun b => b.2)
           (fun m b => m + b.1 = k ∧ Tab (.cells [.d (.sl 35 L), .d (.sl 2 (g.edges.map erow))]) k k (warJ x i R2 b.1) b.2) k (0, s) (by simp [SubB, Go.Bb.look]) rfl ⟨rfl, ht⟩ ?_
         clear ht s
         rintro m2 ⟨j, s⟩ ⟨hm2, ht⟩
         dsimp only at hm2 ht ⊢
         by_cases hjk : j < k
         · have f1 : decide ((j : Int) < (k : Int)) = true := by simpa using hjk
           have f3 : IntKind.i64.wrap ((j : Int) + 1) = ((j + 1 : Nat) : Int) := wrapN (by omega) (by omega)
           have hwj := warJ_succ x i R2 j
           generalize warJ x i R2 j = R3 at ht hwj
           have hV := ht.v
           have hh := hands_len k k
           have hhi := hands_get (n := k) hik
           have hhx := hands_get (n := k) hxk
           obtain ⟨r, r1, r2, r3, r4⟩ := ht.row_rel hik hjk
           obtain ⟨r', r1', r2', r3', r4'⟩ := ht.row_rel hik hxk
           obtain rfl : r = r' := r3.symm.trans r3'
           obtain ⟨u, u1, u2, u3, u4⟩ := ht.row_rel hxk hjk
           unfold rblk at r2 u2
           have hjr : j + 1 ≤ k := by omega
           have hfin : ∀ {s' : List AObj}, Tab (.cells [.d (.sl 35 L), .d (.sl 2 (g.edges.map erow))]) k k (wput R3 x i j) s' → ∃ (m' : Nat) (b' : Nat × List AObj), m' < m2 ∧ ((j + 1 : Nat) : Int) = (b'.1 : Int) ∧ s' = b'.2 ∧ m' + b'.1 = k ∧ Tab (.cells [.d (.sl 35 L), .d (.sl 2 (g.edges.map erow))]) k k (warJ x i R2 b'.1) b'.2 := fun {s'} h =>
             ⟨m2 - 1, (j + 1, s'), by omega, rfl, rfl, by dsimp only; omega, by dsimp only; rw [hwj]; exact h⟩
           unfold wput at hfin
           have hput := fun b => rblk_set' r j b (by omega)
           cases b1 : rel R3 i j with
           | true =>
             rw [b1] at r4 hfin
             simp only [hV, f1, f3, hh, hik, hjk, hxk, hhi, hhx, r1, r2, r4, hjr, Nat.mul_one, undef, ↓Both_true, ↓Both_false, wx, reduceCtorEq, reduceIte, Nat.reduceAdd, Nat.reduceEqDiff, Nat.reduceLT, Nat.reduceLeDiff, wj, ← List.map_take, ← List.map_drop]
             rw [← hput, ← r3]
             exact ⟨(ordF_coarse (by simp only [List.map_cons, List.map_nil, coarse_rd, coarse_wr]; rfl)), hfin (ht.put hik true)⟩
           | false =>
             cases b2 : rel R3 i x with
             | false =>
               rw [b1] at r4
               rw [b2] at r4'
               rw [b1, b2] at hfin
               simp only [hV, f1, f3, hh, hik, hjk, hxk, hhi, hhx, r1, r2, r4, r4', hjr, Nat.mul_one, ↓Both_true, ↓Both_false, wx, reduceCtorEq, reduceIte, Nat.reduceAdd, Nat.reduceEqDiff, Nat.reduceLT, Nat.reduceLeDiff, wj, ← List.map_take, ← List.map_drop]
               rw [← hput, ← r3]
               exact ⟨(ordF_coarse (by simp only [List.map_cons, List.map_nil, coarse_rd, coarse_wr]; rfl)), hfin (ht.put hik false)⟩
             | true =>
               rw [b1] at r4
               rw [b2] at r4'
               rw [b1, b2] at hfin
               simp only [hV, f1, f3, hh, hik, hjk, hxk, hhi, hhx, r1, r2, r4, r4', u1, u2, u4, hjr, Nat.mul_one, ↓Both_true, ↓Both_false, wx, reduceCtorEq, reduceIte, Nat.reduceAdd, Nat.reduceEqDiff, Nat.reduceLT, Nat.reduceLeDiff, wj, ← List.map_take, ← List.map_drop]
               rw [← hput, ← r3]
               exact ⟨(ordF_coarse (by simp only [List.map_cons, List.map_nil, coarse_rd, coarse_wr]; rfl)), hfin (ht.put hik (rel R3 x j))⟩
         · have hj : j = k := by omega
           subst hj
           have f1 : decide ((j : Int) < (j : Int)) = false := by simp
           simp only [f1, g3, ↓Both_true, ↓Both_false, wx, reduceCtorEq, reduceIte, Nat.reduceAdd, Nat.reduceEqDiff, Nat.reduceLT, Nat.reduceLeDiff, wj, ← List.map_take, ← List.map_drop]
           refine ⟨m1 - 1, (i + 1, s), by omega, rfl, rfl, by dsimp only; omega, by dsimp only; rw [hwi]; exact ht⟩
       · have hj : i = k := by omega
         subst hj
         have g1 : decide ((i : Int) < (i : Int)) = false := by simp
         simp only [g1, h3, ↓Both_true, ↓Both_false, wx, reduceCtorEq, reduceIte, Nat.reduceAdd, Nat.reduceEqDiff, Nat.reduceLT, Nat.reduceLeDiff, wj, ← List.map_take, ← List.map_drop]
         refine ⟨m - 1, (x + 1, s), by omega, rfl, rfl, by dsimp only; omega, by dsimp only; rw [hws]; exact ht⟩
     · have hj : x = k := by omega
       subst hj
       have g1 : decide ((x : Int) < (x : Int)) = false := by simp
       have hd := ht.deep
       simp only [g1, ↓hd, ↓Both_true, ↓Both_false, wx, reduceCtorEq, reduceIte, Nat.reduceAdd, Nat.reduceEqDiff, Nat.reduceLT, Nat.reduceLeDiff, wj, ← List.map_take, ← List.map_drop]
end Go.Proofs.Lg

namespace Go.Proofs.Lg
open Go Go.Ab Go.Bb Go.RowKit Go.Proofs.Lh
theorem of_fn {g : Gr} (hg : GrOk g) (hc : g.check = 0) : AFn Tryz.prog 39 [dGraph g] (dOrd (dLines g.lines) (dEdges g.edges) g.reach) := by
 have hr := Reaches_fn hg hc
 rw [war_reach hc] at hr
 refine AFn_of (F := k_refOf) (okb_refOf.trans (by kernel_rfl)) (by simp [k_refOf]) ?_
 simp only [k_refOf, dGraph, dLines, dEdges, ↓Both_true, ↓Both_false, wx, reduceCtorEq, reduceIte, Nat.reduceAdd, Nat.reduceEqDiff, Nat.reduceLT, Nat.reduceLeDiff, wj, ← List.map_take, ← List.map_drop]
 refine CallM.data hr rfl ?_
 simp only [dRows, dOrd, ↓Both_true, ↓Both_false, wx, reduceCtorEq, reduceIte, Nat.reduceAdd, Nat.reduceEqDiff, Nat.reduceLT, Nat.reduceLeDiff, wj, ← List.map_take, ← List.map_drop]
 rfl
def setL (g : Gr) : List Nat := sortB g.reach (inL g.reach g.living g.living)
theorem settled_fn {g : Gr} (hg : GrOk g) (hc : g.check = 0) : AFn Tryz.prog 40 [dOrd (dLines g.lines) (dEdges g.edges) g.reach] (dNats (setL g)) := by
 have hdim : g.dim = g.lines.length := by unfold Gr.dim; rw [if_pos hc]
 have hliv : g.living = livL g.lines := by unfold Gr.living; rw [if_pos hc]
 have ht := g.transR
 have hq := g.sq
 rw [hdim] at ht hq
 have h := settledM_fn (dEdges g.edges) g.lines ht hq rfl (fun x hx => (hg.okl x hx).1) hg.few
 have hs := arrN_settled g.lv
 unfold setR at h
 rw [← hliv, hs] at h
 exact h
end Go.Proofs.Lg
