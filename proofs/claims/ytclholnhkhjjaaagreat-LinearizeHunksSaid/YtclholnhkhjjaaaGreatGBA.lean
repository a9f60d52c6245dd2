/-
  Part GBA of this claim's proof. Joined by merge.py from the texts of wip/tpl.
-/
import Derived.Test.YtclholnhkhjjaaaGreatGAV
import Derived.Test.YtclholnhkhjjaaaGreatGAZ
import Derived.Test.YtclholnhkhjjaaaGreatGAS
set_option linter.unusedVariables false
set_option linter.unusedSimpArgs false
set_option linter.unnecessarySimpa false
namespace Go.Proofs.Lh
open Go Go.Bb Go.RowKit Go.Proofs.Lg
open Go.Ab (RD RDs D flatten_len flatten_row)
theorem RDs_scs {I : Nat → Nat} {w : World} {cs : List Value} (h : ∀ c ∈ cs, c.oneCell' = true) : RDs I w cs (cs.map .sc) := by
 refine ⟨by rw [List.length_map], h, fun i u d hu hd => ?_⟩
 rw [List.getElem?_map, hu] at hd
 obtain rfl := Option.some.inj hd
 exact .sc u
theorem RDs_flatten {I : Nat → Nat} {w : World} : ∀ {cs : List (List Value)} {rows : List (List D)}, cs.length = rows.length → (∀ (i : Nat) (c : List Value) (r : List D), cs[i]? = some c → rows[i]? = some r → RDs I w c r) → RDs I w cs.flatten rows.flatten
 | [], [], _, _ => ⟨rfl, (fun u hu => by simp at hu), (fun i u d hu hd => by simp at hu)⟩
 | [], _ :: _, h, _ => by simp at h
 | _ :: _, [], h, _ => by simp at h
 | c :: cs, r :: rows, h, hr => by
   rw [List.flatten_cons, List.flatten_cons]
   exact (hr 0 c r rfl rfl).append (RDs_flatten (by simpa using h) fun i c' r' h1 h2 => hr (i + 1) c' r' (by simpa using h1) (by simpa using h2))
theorem RD_of_SlAtP {I : Nat → Nat} {ok : Nat → Prop} {w : World} {v : Value} {us : List Value} {rows : List (List D)} (h : SlAtP ok w v us) (hI : ∀ b o u, ok b → w.cell? ⟨b, o, none⟩ = some u → o < I b) (h5 : RDs I w us rows.flatten) (h1 : us.length = rows.length) (h2 : ∀ r ∈ rows, r.length = 1) : RD I w v (.sl 1 rows) := by
 obtain ⟨a, c, rfl, k1, k2, k3⟩ := h
 refine Go.Ab.RD.sl_mk h1.symm h2 k1 k2 h5 fun hne => ?_
 have hne' : us ≠ [] := fun e => by rw [e] at h1; exact hne (List.eq_nil_of_length_eq_zero h1.symm)
 obtain ⟨b, off, ha, hok, hc⟩ := k3 hne'
 exact ⟨b, off, ha, fun i u hu => ⟨hI b _ u hok (hc i u hu), hc i u hu⟩⟩
theorem RD_of_SlAt {w : World} {v : Value} {us : List Value} {rows : List (List D)} (h : SlAt w v us) (h5 : RDs (Go.Bb.cellsIn w) w us rows.flatten) (h1 : us.length = rows.length) (h2 : ∀ r ∈ rows, r.length = 1) : RD (Go.Bb.cellsIn w) w v (.sl 1 rows) :=
 RD_of_SlAtP (ok := fun _ => True) (h.slAtP_of (ok := fun _ => True) fun _ _ => trivial) (fun _ _ _ _ hc => Go.Bb.lt_cellsIn hc) h5 h1 h2
theorem ints_one (l : List Nat) : ∀ u ∈ ints (nats l), u.oneCell' = true := oneCell_ints _
theorem RD_of_ints {I : Nat → Nat} {ok : Nat → Prop} {w : World} {v : Value} {l : List Nat} (h : SlAtP ok w v (ints (nats l))) (hI : ∀ b o u, ok b → w.cell? ⟨b, o, none⟩ = some u → o < I b) : RD I w v (dNats l) := by
 refine RD_of_SlAtP h hI ?_ (by rw [ints_length, nats_length, List.length_map]) fun r hr => ?_
 · rw [flat_nrow]; exact RDs_scs (ints_one l)
 · obtain ⟨x, _, rfl⟩ := List.mem_map.1 hr; rfl
theorem RD_of_ints' {w : World} {v : Value} {l : List Nat} (h : SlAt w v (ints (nats l))) : RD (Go.Bb.cellsIn w) w v (dNats l) :=
 RD_of_ints (ok := fun _ => True) (h.slAtP_of (ok := fun _ => True) fun _ _ => trivial) fun _ _ _ _ hc => Go.Bb.lt_cellsIn hc
theorem RD_of_SlOf {w : World} {v : Value} {l : List (List Nat)} (h : SlOf w v (l.map fun s => ints (nats s))) : RD (Go.Bb.cellsIn w) w v (.sl 1 (l.map srow)) := by
 obtain ⟨vs, h1, h2, h3⟩ := h
 rw [List.length_map] at h2
 have hg : ∀ (i : Nat) (u : Value) (s : List Nat), vs[i]? = some u → l[i]? = some s → SlAt w u (ints (nats s)) := fun i u s hu hs => h3 i u _ hu (by rw [List.getElem?_map, hs]; rfl)
 refine RD_of_SlAt h1 ?_ (by rw [List.length_map, h2]) fun r hr => ?_
 · rw [flat_srow]
   refine ⟨by rw [List.length_map, h2], fun u hu => ?_, fun i u d hu hd => ?_⟩
   · obtain ⟨i, hi, rfl⟩ := List.mem_iff_getElem.1 hu
     obtain ⟨a, c, he, _⟩ := hg i vs[i] (l[i]'(by omega)) (List.getElem?_eq_getElem hi) (List.getElem?_eq_getElem (by omega))
     rw [he]; rfl
   · rw [List.getElem?_map] at hd
     obtain ⟨s, hs, rfl⟩ := Option.map_eq_some_iff.1 hd
     exact RD_of_ints' (hg i u s hu hs)
 · obtain ⟨x, _, rfl⟩ := List.mem_map.1 hr; rfl
theorem RD_of_SlR {w : World} {v : Value} {sz : Nat} {cs : List (List Value)} {rows : List (List D)} (h : SlN w v sz cs) (hl : cs.length = rows.length) (hsz : 0 < sz)
   (hr : ∀ (i : Nat) (c : List Value) (r : List D), cs[i]? = some c → rows[i]? = some r → c.length = sz ∧ RDs (Go.Bb.cellsIn w) w c r) : RD (Go.Bb.cellsIn w) w v (.sl sz rows) := by
 obtain ⟨a, c, rfl, h3, h4, h6⟩ := h
 have hcl : ∀ r ∈ cs, r.length = sz := fun r hm => by
   obtain ⟨i, hi, rfl⟩ := List.mem_iff_getElem.1 hm
   exact (hr i cs[i] (rows[i]'(by omega)) (List.getElem?_eq_getElem hi) (List.getElem?_eq_getElem (by omega))).1
 have hrl : ∀ r ∈ rows, r.length = sz := fun r hm => by
   obtain ⟨i, hi, rfl⟩ := List.mem_iff_getElem.1 hm
   obtain ⟨k1, k2⟩ := hr i (cs[i]'(by omega)) rows[i] (List.getElem?_eq_getElem (by omega)) (List.getElem?_eq_getElem hi)
   rw [← k2.1, k1]
 refine Go.Ab.RD.sl_mk hl.symm hrl h3 h4 (RDs_flatten hl fun i c r h1 h2 => (hr i c r h1 h2).2) fun hne => ?_
 obtain ⟨b, off, ha, hc⟩ := h6 (fun e => by rw [e] at hl; exact hne (List.eq_nil_of_length_eq_zero hl.symm))
 refine ⟨b, off, ha, fun i u hu => ?_⟩
 have hi : i < cs.length * sz := by rw [← flatten_len cs hcl]; exact (List.getElem?_eq_some_iff.1 hu).1
 have hq : i / sz < cs.length := Nat.div_lt_of_lt_mul (by rw [Nat.mul_comm]; exact hi)
 have hrow := flatten_row cs hcl (i / sz) cs[i / sz] (List.getElem?_eq_getElem hq)
 have hm : i % sz < sz := Nat.mod_lt _ hsz
 have hdm : i / sz * sz + i % sz = i := by rw [Nat.mul_comm]; exact Nat.div_add_mod i sz
 have hx : cs[i / sz][i % sz]? = some u := by
   rw [← hrow, List.getElem?_take, if_pos hm, List.getElem?_drop, hdm]; exact hu
 have := hc (i / sz) _ (List.getElem?_eq_getElem hq) (i % sz) u hx
 rw [Nat.add_assoc, hdm] at this
 exact ⟨Go.Bb.lt_cellsIn this, this⟩
theorem SlAt.one {w : World} {v : Value} {xs : List Value} (h : SlAt w v xs) : v.oneCell' = true := by obtain ⟨a, c, rfl, _⟩ := h; rfl
theorem SlOf.one {w : World} {v : Value} {xs : List (List Value)} (h : SlOf w v xs) : v.oneCell' = true := by obtain ⟨vs, h, _⟩ := h; exact SlAt.one h
theorem RD_of_RegsIn {w : World} {v : Value} {regs : List Reg} (h : RegsIn w v regs) : RD (Go.Bb.cellsIn w) w v (dRegs regs) := by
 obtain ⟨cs, h1, h2, h3⟩ := h
 refine RD_of_SlR h1 (by rw [List.length_map, h2]) (by omega) fun i c r hc hr => ?_
 rw [List.getElem?_map] at hr
 obtain ⟨x, hx, rfl⟩ := Option.map_eq_some_iff.1 hr
 obtain ⟨vl, vs, rfl, k1, k2⟩ := h3 i c x hc hx
 refine ⟨rfl, rfl, fun u hu => ?_, fun i u d hu hd => ?_⟩
 · simp at hu
   rcases hu with rfl | rfl | rfl
   · rfl
   · exact SlAt.one k1
   · exact SlOf.one k2
 · match i with
   | 0 => simp [dReg] at hu hd; subst hu hd; exact .sc _
   | 1 => simp [dReg] at hu hd; subst hu hd; exact RD_of_ints' k1
   | 2 => simp [dReg] at hu hd; subst hu hd; exact RD_of_SlOf k2
   | i + 3 => simp at hu
theorem FnK.calls2 {f g : FuncId} {d : D} {c : Value} (h : FnK Tryz.prog f [.d d, .clo g [] []] [] fun r s' => r = .d (.sc c) ∧ s' = []) {w : World} {v : Value} (hv : RD (Go.Bb.cellsIn w) w v d) :
   Calls Tryz.prog f #[v, .func (.func g) #[] #[]] w fun e w' => e = .returned c ∧ Below w.heap.size w w' := by
 obtain ⟨r, s', hr, rfl, rfl⟩ := h
 have hst : St (LLc Tryz.prog) w.heap.size ⟨Go.Bb.cellsIn w, []⟩ [] w := ⟨Nat.le_refl _, rfl, by simp, by simp, by simp⟩
 refine Calls.mono (hr.calls w.heap.size ⟨Go.Bb.cellsIn w, []⟩ w [v, .func (.func g) #[] #[]] hst ⟨rfl, fun i u c hu hc => ?_⟩) ?_
 · match i with
   | 0 => simp at hu hc; subst hu hc; exact .d hv
   | 1 => simp at hu hc; subst hu hc; exact .clo (us := []) (vs := []) rfl rfl (fun i u c h => by simp at h) (fun i u c h => by simp at h)
   | i + 2 => simp at hu
 · rintro e w' ⟨v, k', rfl, hv, he, hs⟩
   obtain hv := hv.d_inv
   have := RD_sc hv
   subst this
   exact ⟨rfl, he.below⟩
theorem linClean_any (vl ve : Value) (g : Gr) (w : World) (hg : GrAt w vl ve g) :
   Calls Tryz.prog 55 #[.agg #[vl, ve]] w fun e w' => e = .returned (.bool (!(regionsL g.reach g.living).any Reg.conflict)) ∧ Below w.heap.size w w' := by
 obtain ⟨al, cl, ml, rfl⟩ : ∃ a c m, vl = .slice a m c := by obtain ⟨a, c, h, _⟩ := hg.lines; exact ⟨a, c, _, h⟩
 obtain ⟨ae, ce, me, rfl⟩ : ∃ a c m, ve = .slice a m c := by obtain ⟨a, c, h, _⟩ := hg.edges; exact ⟨a, c, _, h⟩
 have hb0 : Below w.heap.size w (w.alloc (.cells #[.slice al ml cl, .slice ae me ce] 25)) := (Below.refl _ _).alloc (Nat.le_refl _) _
 have HR := Lib.hid (Regions_any _ _ g _ (hg.below hb0))
 have HB := Lib.hid hb0
 have hn : (regionsL g.reach g.living).length ≤ 1000000 := Nat.le_trans (reg_bounds g).1 hg.few
 have hC := fun (v : Value) (w : World) (h : RegsIn w v (regionsL g.reach g.living)) => FnK.calls2 (ContainsFuncRegion_fn _ hn []) (RD_of_RegsIn h)
 generalize (regionsL g.reach g.living).any Reg.conflict = b at hC ⊢
 have HC := Lib.hid hC
 clear hg hb0 hn hC
 go_enter Tryz.func55, Tryz.ntmps55
 go_wp2_with (fail)
 refine HR.out.mono ?_
 rintro e w1 ⟨v, rfl, hr, hb1⟩
 have HB1 : Hid (Below w.heap.size w w1) := HB.out.trans (hb1.mono HB.out.size)
 have HC1 := Lib.hid (HC.out v w1 hr)
 clear hb1 hr
 go_wp2_with (fail)
 refine HC1.out.mono ?_
 rintro e w2 ⟨rfl, hb2⟩
 have HB2 : Hid (Below w.heap.size w w2) := HB1.out.trans (hb2.mono HB1.out.size)
 clear hb2
 go_wp2
 go_ret
 exact ⟨rfl, HB2.out⟩
theorem graph_fn {f : FuncId} {fn : Func} {c : Code} (hfn : Tryz.prog.funcs[f]? = some fn) (hb : fn.body = some c) (hnm : (fn.name == "runtime.NumGoroutine") = false) {g : Gr} (hg : GrOk g) {r : D}
   (h : ∀ (vl ve : Value) (w : World), GrAt w vl ve g → Calls Tryz.prog f #[.agg #[vl, ve]] w fun e w' => ∃ v, e = .returned v ∧ (∀ I, RD (bigI I w.heap.size w') w' v r) ∧ Below w.heap.size w w') : AFn Tryz.prog f [dGraph g] r := by
 refine ⟨enters_fn hfn hb hnm, fun I w vs hl hv => ?_⟩
 match vs, hl with
 | [v], _ =>
   obtain ⟨vl, ve, rfl, hat⟩ := dGraph_inv hg (hv 0 v _ rfl rfl)
   exact (h vl ve w hat).mono fun e w' ⟨v, he, h1, h2⟩ => ⟨v, he, h1 I, h2⟩
theorem linClean_fn {g : Gr} (hg : GrOk g) : AFn Tryz.prog 55 [dGraph g] (dBool (!(regionsL g.reach g.living).any Reg.conflict)) :=
 graph_fn Tryz.func55 (by rfl) (by rfl) hg fun vl ve w hat => (linClean_any vl ve g w hat).mono fun e w' ⟨he, hb⟩ => ⟨_, he, fun _ => .sc _, hb⟩
theorem Check_fn {g : Gr} (hg : GrOk g) : AFn Tryz.prog 54 [dGraph g] (.sc (.int .i64 g.check)) :=
 graph_fn Tryz.func54 (by rfl) (by rfl) hg fun vl ve w hat => (Check_any vl ve g w hat).mono fun e w' ⟨he, hb⟩ => ⟨_, he, fun _ => .sc _, hb⟩
theorem linSequence_fn {g : Gr} (hg : GrOk g) : AFn Tryz.prog 15 [dGraph g] (dNats (seqL g.reach g.living)) :=
 graph_fn Tryz.func15 (by rfl) (by rfl) hg fun vl ve w hat => (Sequence_own vl ve g w hat).mono fun e w' ⟨v, he, hs, hb⟩ => ⟨v, he, fun I => RD_of_ints hs fun b o u hb hc => by
   unfold bigI; rw [if_neg (by omega)]; exact lt_cellsIn hc, hb⟩
end Go.Proofs.Lh

namespace Go.Proofs.Lh
open Go Go.Bb Go.RowKit Go.Proofs.Lg
theorem info_string : (Tryz.prog.info? 9).map (fun i => (i.zero, i.size, i.bytes)) = some (some (.string ⟨#[]⟩), 1, 16) := by kernel_rfl
theorem CloneStrings_empty (a : Option Addr) (c : Nat) (hc : c ≤ 9223372036854775807) (w : World) :
   Calls Tryz.prog 99 #[.slice a 0 c] w fun e w' => ∃ v, e = .returned v ∧ SlAt w' v [] ∧ Below w.heap.size w w' := by
 cases a with
 | none =>
   have heq : ∀ w, (binOp .eql 56 (.slice none 0 c) (.slice none 0 0)).run Tryz.prog w = .ok (.bool true) w := fun w => by rw [Lib.run_eql_slice_nil (h := Tryz.underlying56)]; rfl
   go_enter Tryz.func99, Tryz.ntmps99
   go_wp2
   go_ret
   exact ⟨_, rfl, SlAt.nil _, Below.refl _ _⟩
 | some ad =>
   have heq : ∀ w, (binOp .eql 56 (.slice (some ad) 0 c) (.slice none 0 0)).run Tryz.prog w = .ok (.bool false) w := fun w => by rw [Lib.run_eql_slice_nil (h := Tryz.underlying56)]; rfl
   have hsl : SlAt w (.slice (some ad) 0 c) [] := ⟨some ad, c, rfl, Nat.zero_le _, hc, fun h => absurd rfl h⟩
   have HS := Lib.hid hsl
   clear hsl
   have hown := World.ownsRow_made (e := 9) (size := 1) (base := w.heap.size) w #[] 0 (Nat.le_refl _) (by unfold maxLen; omega) rfl
   have HO := Lib.hid hown
   clear hown
   go_enter Tryz.func99, Tryz.ntmps99
   go_wp2_with (at_builtin; refine wpList_app rfl _ _ _ rfl w.heap.size 9 (.string ⟨#[]⟩) 1 16 Tryz.underlying56 info_string rfl (by decide) _ 0 [] rfl HO.out _ 0 [] rfl ((HS.out.below ((Below.refl _ _).alloc (Nat.le_refl _) _)).src) (fun u hu => by cases hu) (by omega) (by omega) (by simp) ?_; intro a' c' w1 hown1 hgrow1 hat1)
   go_ret
   exact ⟨_, rfl, ownsRow_slAt hown1, Below.grown ((Below.refl _ _).alloc (Nat.le_refl _) _) hgrow1 (by simp) (fun k hk => Nat.le_of_eq (Option.some.inj hk))⟩
theorem CloneStrings_fn (l : List ByteArray) (hll : l.length ≤ 1000000) : AFn Tryz.prog 99 [dStrs l] (dStrs l) := by
 cases l with
 | nil =>
   refine ⟨enters_fn Tryz.func99 rfl (by rfl), fun I w vs hl hv => ?_⟩
   match vs, hl with
   | [v], _ =>
     obtain ⟨a, c, us, rfl, h2, h3, h4, h5, h6⟩ := Go.Ab.RD.sl_inv (hv 0 v _ rfl rfl)
     refine (CloneStrings_empty a c h4 w).mono fun e w' ⟨v, he, hs, hb⟩ => ⟨v, he, ?_, hb⟩
     exact RD_of_SlAtP (ok := fun _ => False) (by obtain ⟨a', c', k1, k2, k3, _⟩ := hs; exact ⟨a', c', k1, k2, k3, fun h => absurd rfl h⟩) (fun _ _ _ h _ => h.elim) ⟨rfl, (fun u hu => by cases hu), (fun i u d hu => by simp at hu)⟩ rfl (fun r hr => by cases hr)
 | cons x l =>
   have h0 : roomOk (l.length + 1) 16 = true := by simp [roomOk] at hll ⊢; omega
   refine AFn_of (F := k_CloneStrings) (okb_CloneStrings.trans (by kernel_rfl)) (by simp [k_CloneStrings]) ?_
   simp only [k_CloneStrings, dStrs, h0, deepD, AV.toL, Nat.zero_mul, ↓Both_true, ↓Both_false, wx, reduceCtorEq, reduceIte, Nat.reduceAdd, Nat.reduceEqDiff, Nat.reduceLT, Nat.reduceLeDiff, wj, ← List.map_take, ← List.map_drop]
theorem CloneMatches_nil (s : List AObj) : FnK Tryz.prog 98 [.nil 3] s fun d s' => d = .nil 3 ∧ s' = s := by
 refine FnK.of (F := k_CloneMatches) (okb_CloneMatches.trans (by kernel_rfl)) (by simp [k_CloneMatches]) ?_
 simp only [k_CloneMatches, ↓Both_true, ↓Both_false, wx, reduceCtorEq, reduceIte, Nat.reduceAdd, Nat.reduceEqDiff, Nat.reduceLT, Nat.reduceLeDiff, wj, ← List.map_take, ← List.map_drop]
theorem CloneMatches_cons (m : Mt) (l : List Mt) (hll : l.length ≤ 1000000) (s : List AObj) : FnK Tryz.prog 98 [.d (dMts (m :: l))] s fun d s' => d = .tsl s.length 3 ((m :: l).map dMt) ∧ s' = s ++ [.row 65 3 (l.length + 1)] := by
 have h0 : roomOk (l.length + 1) 24 = true := by simp [roomOk] at hll ⊢; omega
 refine FnK.of (F := k_CloneMatches) (okb_CloneMatches.trans (by kernel_rfl)) (by simp [k_CloneMatches]) ?_
 simp only [k_CloneMatches, dMts, h0, Nat.zero_mul, ↓Both_true, ↓Both_false, wx, reduceCtorEq, reduceIte, Nat.reduceAdd, Nat.reduceEqDiff, Nat.reduceLT, Nat.reduceLeDiff, wj, ← List.map_take, ← List.map_drop]
set_option maxRecDepth 10000 in
set_option maxHeartbeats 2000000 in
theorem myersCheck_fn (a b : List ByteArray) (l : List Mt) (h : MFrom a b 0 0 true l) (ha : a.length ≤ 1000000) (hb : b.length ≤ 1000000) (hl : l.length ≤ 1000000) :
   AFn Tryz.prog 97 [dStrs a, dStrs b, dMts l] (.sc (.int .i64 0)) := by
 refine AFn_of (F := k_myersCheck) (okb_myersCheck.trans (by kernel_rfl)) (by simp [k_myersCheck]) ?_
 simp only [k_myersCheck, dStrs, dMts, ↓Both_true, ↓Both_false, wx, reduceCtorEq, reduceIte, Nat.reduceAdd, Nat.reduceEqDiff, Nat.reduceLT, Nat.reduceLeDiff, wj, ← List.map_take, ← List.map_drop]
 refine LoopK.at (fun s : Nat × Int × Int × List AObj => [(13, .d (.sc (.int .i64 s.1))), (12, .d (.sc (.int .i64 l.length))), (11, .d (.sl 3 (l.map dMt))), (7, .d (.sc (.int .i64 s.2.1))), (8, .d (.sc (.int .i64 s.2.2.1))), (0, .d (.sl 1 (a.map strow))), (1, .d (.sl 1 (b.map strow)))])
   (fun s => s.2.2.2)
   (fun mm s => mm + s.1 = l.length ∧ ((s.2.1 = -1 ∧ s.2.2.1 = -1 ∧ MFrom a b 0 0 true (l.drop s.1)) ∨ ∃ x y : Nat, s.2.1 = x ∧ s.2.2.1 = y ∧ x ≤ a.length ∧ y ≤ b.length ∧ MFrom a b x y false (l.drop s.1)))
   l.length (0, -1, -1, []) (by simp [SubB, Go.Bb.look, intD]) rfl ⟨rfl, .inl ⟨rfl, rfl, h⟩⟩ ?_
 rintro mm ⟨i, xx, yy, J⟩ ⟨hm, hM0⟩
 dsimp only at hm hM0 ⊢
 by_cases hlt : i < l.length
 · have f1 : decide ((i : Int) < (l.length : Int)) = true := by simpa using hlt
   have f2 : l[i]? = some l[i] := List.getElem?_eq_getElem hlt
   have f3 : IntKind.i64.wrap ((i : Int) + 1) = ((i + 1 : Nat) : Int) := wrapN (by omega) (by omega)
   have hd : l.drop i = l[i] :: l.drop (i + 1) := List.drop_eq_getElem_cons hlt
   rw [hd] at hM0
   generalize l[i] = m at f2 hM0
   have hM : MOk a b m ∧ xx ≤ m.a ∧ yy ≤ m.b ∧ ¬ ((m.a : Int) = xx ∧ (m.b : Int) = yy) ∧ MFrom a b (m.a + m.len) (m.b + m.len) false (l.drop (i + 1)) := by
     rcases hM0 with ⟨rfl, rfl, m0, m1, m2, m3, m4⟩ | ⟨x, y, rfl, rfl, _, _, m0, m1, m2, m3, m4⟩
     · exact ⟨m0, by omega, by omega, by omega, m4⟩
     · refine ⟨m0, by omega, by omega, ?_, m4⟩
       rcases m3 with m3 | m3
       · cases m3
       · omega
   clear hM0 hd
   obtain ⟨⟨o1, o2, o3, o4⟩, m1, m2, m3, m4⟩ := hM
   obtain ⟨p, q, n⟩ := m
   dsimp only at o1 o2 o3 o4 m1 m2 m3 m4
   have hmm : mm - 1 < mm ∧ mm - 1 + (i + 1) = l.length := cntA hm hlt
   clear hm
   have g1 : decide ((n : Int) < 1) = false := by simp; omega
   have g2 : decide ((p : Int) < 0) = false := by simp
   have g3 : decide ((q : Int) < 0) = false := by simp
   have g6 : IntKind.i64.wrap ((a.length : Int) - (n : Int)) = (a.length : Int) - (n : Int) := subN (by omega) (by omega)
   have g7 : IntKind.i64.wrap ((b.length : Int) - (n : Int)) = (b.length : Int) - (n : Int) := subN (by omega) (by omega)
   have g8 : decide ((p : Int) > (a.length : Int) - (n : Int)) = false := by simp; omega
   have g9 : decide ((q : Int) > (b.length : Int) - (n : Int)) = false := by simp; omega
   have k1 : decide ((p : Int) < xx) = false := by simp; omega
   have k2 : decide ((q : Int) < yy) = false := by simp; omega
   have k4 : IntKind.i64.wrap ((p : Int) + (n : Int)) = ((p + n : Nat) : Int) := addN (by omega) (by omega)
   have k5 : IntKind.i64.wrap ((q : Int) + (n : Int)) = ((q + n : Nat) : Int) := addN (by omega) (by omega)
   have i1 : (p : Int) ≤ ((p + n : Nat) : Int) := by omega
   have i2 : ((p + n : Nat) : Int) ≤ (a.length : Int) := by omega
   have i3 : (q : Int) ≤ ((q + n : Nat) : Int) := by omega
   have i4 : ((q + n : Nat) : Int) ≤ (b.length : Int) := by omega
   have hseg : (b.take (q + n)).drop q = (a.take (p + n)).drop p := by
     refine List.ext_getElem? fun j => ?_
     rw [List.getElem?_drop, List.getElem?_drop, List.getElem?_take, List.getElem?_take]
     by_cases hj : j < n
     · rw [if_pos (by omega), if_pos (by omega), o4 j hj]
     · rw [if_neg (by omega), if_neg (by omega)]
   have heq := EqualStrings_fn ((a.take (p + n)).drop p) (by rw [List.length_drop, List.length_take]; omega)
   have r33 : 3 ≤ 3 := Nat.le_refl _
   have hcase : ((p : Int) == xx) = false ∨ (((p : Int) == xx) = true ∧ ((q : Int) == yy) = false) := by
     by_cases hpx : (p : Int) = xx
     · right; refine ⟨by simp [hpx], ?_⟩; simp; omega
     · left; simp [hpx]
   rcases hcase with c2 | ⟨c2, c3⟩
   all_goals (
     simp only [*, dMt, ↓Both_true, ↓Both_false, wx, reduceCtorEq, reduceIte, Nat.reduceAdd, Nat.reduceEqDiff, Nat.reduceLT, Nat.reduceLeDiff, wj, ← List.map_take, ← List.map_drop]
     refine CallM.data heq rfl ?_
     simp only [dMt, *, dBool, ↓Both_true, ↓Both_false, wx, reduceCtorEq, reduceIte, Nat.reduceAdd, Nat.reduceEqDiff, Nat.reduceLT, Nat.reduceLeDiff, wj, ← List.map_take, ← List.map_drop]
     exact ⟨(ordF_coarse (by simp only [List.map_cons, List.map_nil, coarse_rd, coarse_wr]; rfl)), (ordF_coarse (by simp only [List.map_cons, List.map_nil, coarse_rd, coarse_wr]; rfl)), mm - 1, (i + 1, ((p + n : Nat) : Int), ((q + n : Nat) : Int), J ++ [.cells [.d (.sc (.int .i64 p)), .d (.sc (.int .i64 q)), .d (.sc (.int .i64 n))]]), hmm.1, ⟨rfl, rfl, rfl⟩, rfl, hmm.2, .inr ⟨p + n, q + n, rfl, rfl, o2, o3, m4⟩⟩)
 · have f1 : decide ((i : Int) < (l.length : Int)) = false := by simpa using hlt
   simp only [f1, deepD, AV.toL, ↓Both_true, ↓Both_false, wx, reduceCtorEq, reduceIte, Nat.reduceAdd, Nat.reduceEqDiff, Nat.reduceLT, Nat.reduceLeDiff, wj, ← List.map_take, ← List.map_drop]
end Go.Proofs.Lh
