/-
  Part W2 of this claim's proof. Joined by merge.py from the texts of wip/tpl.
-/
import Derived.Test.YtclholnhkhjjaaaGreatGAO
set_option linter.unusedVariables false
set_option linter.unusedSimpArgs false
set_option linter.unnecessarySimpa false
namespace Go.Proofs.Lg
open Go Go.RowKit Go.Shelf
structure VEnv (w : World) (bm Bs Bl Bx Bv : Nat) (vl ve vr vv vt : Value) (rows : List (List Bool)) (l : List Nat) : Prop where
 cs : w.cell? ⟨Bs, 0, none⟩ = some (.map (some bm))
 cl : w.cell? ⟨Bl, 0, none⟩ = some vt
 x0 : w.cell? ⟨Bx, 0, none⟩ = some vl
 x1 : w.cell? ⟨Bx, 1, none⟩ = some ve
 x2 : w.cell? ⟨Bx, 2, none⟩ = some vr
 x3 : w.cell? ⟨Bx, 3, none⟩ = some vv
 cv : w.cell? ⟨Bv, 0, none⟩ = some (.func (.func 106) #[] #[.pointer (some ⟨Bs, 0, none⟩), .pointer (some ⟨Bl, 0, none⟩), .pointer (some ⟨Bx, 0, none⟩), .pointer (some ⟨Bv, 0, none⟩)])
 ne : Bs ≠ bm ∧ Bl ≠ bm ∧ Bx ≠ bm ∧ Bv ≠ bm
 r : SlOfP (fun b => b ≠ bm) w vr (rows.map bools)
 t : SlAtP (fun b => b ≠ bm) w vt (ints (nats l))
theorem VEnv.kept {w w' : World} {bm Bs Bl Bx Bv : Nat} {vl ve vr vv vt : Value} {rows : List (List Bool)} {l : List Nat} (h : VEnv w bm Bs Bl Bx Bv vl ve vr vv vt rows l) (hg : w.grownBy w' (some bm)) : VEnv w' bm Bs Bl Bx Bv vl ve vr vv vt rows l := by
 have hk : ∀ (B j : Nat) u, B ≠ bm → w.cell? ⟨B, j, none⟩ = some u → w'.cell? ⟨B, j, none⟩ = some u := fun B j u hB hc => hg.cell hc (by simpa using hB)
 obtain ⟨n1, n2, n3, n4⟩ := h.ne
 exact ⟨hk _ _ _ n1 h.cs, hk _ _ _ n2 h.cl, hk _ _ _ n3 h.x0, hk _ _ _ n3 h.x1, hk _ _ _ n3 h.x2, hk _ _ _ n3 h.x3, hk _ _ _ n4 h.cv, h.ne, h.r.stays (fun b hb hb' => hg.block b hb' (fun e => hb (Option.some.inj e))), h.t.stays (fun b hb hb' => hg.block b hb' (fun e => hb (Option.some.inj e)))⟩
theorem grownBy_of_below {w w' : World} (h : Below w.heap.size w w') (row : Option Nat) : w.grownBy w' row := ⟨h.os, h.tape, h.output, h.size, fun k hk _ => h.block k hk⟩
theorem grownBy_trans' {a b c : World} {row : Option Nat} (h : a.grownBy b row) (k : b.grownBy c row) : a.grownBy c row :=
 ⟨k.os.trans h.os, k.tape.trans h.tape, k.output.trans h.output, Nat.le_trans h.size k.size, fun j hj hne => (k.block j (Nat.lt_of_lt_of_le hj h.size) hne).trans (h.block j hj hne)⟩
theorem grownBy_step {a b c : World} {row row' : Option Nat} (h : a.grownBy b row) (k : b.grownBy c row') (hr : ∀ r, row' = some r → a.heap.size ≤ r) : a.grownBy c row :=
 ⟨k.os.trans h.os, k.tape.trans h.tape, k.output.trans h.output, Nat.le_trans h.size k.size, fun j hj hne => (k.block j (Nat.lt_of_lt_of_le hj h.size) (fun e => by have := hr j e.symm; omega)).trans (h.block j hj hne)⟩
def VPost (w : World) (bm : Nat) (r : List Nat × List Nat) (e : Ending) (w' : World) : Prop :=
 ∃ u, e = .returned u ∧ w'.ownsRow w.heap.size 3 1 u r.1.length (ints (nats r.1)) ∧ SeenAt w' bm r.2 ∧ w.grownBy w' (some bm)
theorem foldl_grow {rows : List (List Bool)} {i : Nat} {G : List Nat → Nat → List Nat × List Nat} : ∀ (t : List Nat) (c : List Nat × List Nat), c.1.length ≤ (t.foldl (vstep rows i G) c).1.length
 | [], _ => Nat.le_refl _
 | j :: t, c => by
   have h1 : c.1.length ≤ (vstep rows i G c j).1.length := by unfold vstep; split <;> simp
   exact Nat.le_trans h1 (foldl_grow t _)
theorem SlAt.cells_of {w : World} {a : Option Addr} {c k : Nat} {l : List Nat} (h : SlAt w (.slice a l.length c) (ints (nats l))) (hk : k < l.length) : ∃ b off, a = some ⟨b, off, none⟩ ∧ w.cell? ⟨b, off + k, none⟩ = some (.int .i64 (l[k] : Nat)) := by
 obtain ⟨a', c', hv, _, _, h3⟩ := h
 obtain ⟨b, off, hab, hc⟩ := h3 (by intro e; have := congrArg List.length e; simp [ints, nats] at this; subst this; simp at hk)
 refine ⟨b, off, by rw [(Value.slice.inj hv).1, hab], hc k _ (by simp [ints, nats, hk])⟩
set_option maxHeartbeats 8000000 in
set_option maxRecDepth 100000 in
theorem visit_walk (bm Bs Bl Bx Bv n : Nat) (vl ve vr vv vt : Value) (rows : List (List Bool)) (l : List Nat) (hq : Sq n rows) (hn : n ≤ 1000000) (hl : ∀ j ∈ l, j < n) (hll : l.length ≤ 1000000)
   (G : List Nat → Nat → List Nat × List Nat) (f : Nat) (S : List Nat) (i : Nat) (w : World)
   (hG : ∀ S' j w', VEnv w' bm Bs Bl Bx Bv vl ve vr vv vt rows l → SeenAt w' bm S' → j ∈ l → S'.contains j = false → unseen l S' ≤ f → S'.length + unseen l S' ≤ 1000000 →
     Calls Tryz.prog 106 #[.int .i64 j, .pointer (some ⟨Bs, 0, none⟩), .pointer (some ⟨Bl, 0, none⟩), .pointer (some ⟨Bx, 0, none⟩), .pointer (some ⟨Bv, 0, none⟩)] w' (VPost w' bm (G S' j)))
   (hok : ∀ S' j, j ∈ l → S'.contains j = false → VOk l S' (G S' j))
   (hvl : ∃ a c m, vl = .slice a m c) (hve : ∃ a c m, ve = .slice a m c) (hvv : ∃ a c m, vv = .slice a m c) (hE : VEnv w bm Bs Bl Bx Bv vl ve vr vv vt rows l) (hS : SeenAt w bm S) (hi : i ∈ l) (hsi : S.contains i = false) (hf : unseen l S ≤ f + 1) (hsum : S.length + unseen l S ≤ 1000000) :
   Calls Tryz.prog 106 #[.int .i64 i, .pointer (some ⟨Bs, 0, none⟩), .pointer (some ⟨Bl, 0, none⟩), .pointer (some ⟨Bx, 0, none⟩), .pointer (some ⟨Bv, 0, none⟩)] w (VPost w bm (l.foldl (vstep rows i G) ([i], i :: S))) := by
 have hin := hl i hi
 obtain ⟨a, c, rfl⟩ : ∃ a c, vt = .slice a l.length c := by obtain ⟨a, c, h, _⟩ := hE.t; exact ⟨a, c, by simpa [ints, nats] using h⟩
 obtain ⟨al, cl, ml, rfl⟩ := hvl
 obtain ⟨ae, ce, me, rfl⟩ := hve
 obtain ⟨av, cv, mv, rfl⟩ := hvv
 obtain ⟨br, orr, cr, rfl, _⟩ := hE.r.slOf.form hq (by omega)
 have hs0 := hE.cs
 have hSlt := hS.lt
 have HE := Lib.hid hE
 have HS := Lib.hid hS
 have HGG := Lib.hid (And.intro hG hok)
 have HL := Lib.hid hl
 have hupos := unseen_pos hi hsi
 have hSn : S.length ≤ 1000000 := by omega
 have hi6 : i ≤ 1000000 := by omega
 clear hG hok hE hS hl
 go_enter Tryz.func106, Tryz.ntmps106
 go_wp2_with (at_mapUpdate; refine wpList_seen_store _ rfl _ _ _ _ rfl Tryz.underlying144 bm S HS.out rfl i hi6 rfl rfl hSn ?_; intro w1 hS1 hg1; have E1 := HE.out.kept hg1; have hcl := E1.cl; have hltl := cell_lt hcl)
 have HW1 := Lib.hid (And.intro hS1 (And.intro hg1 E1))
 clear hS1 hg1 E1
 have hsz1 : w.heap.size ≤ w1.heap.size := HW1.out.2.1.size
 go_loopg [7, 16] (l.length + 1) (fun gk vc i' wr => ∃ k : Nat, i' = .int .i64 k ∧ k ≤ l.length ∧ gk + k = l.length + 1 ∧
   wr.ownsRow w.heap.size 3 1 vc ((l.take k).foldl (vstep rows i G) ([i], i :: S)).1.length (ints (nats ((l.take k).foldl (vstep rows i G) ([i], i :: S)).1)) ∧
   SeenAt wr bm ((l.take k).foldl (vstep rows i G) ([i], i :: S)).2 ∧ w.grownBy wr (some bm))
 case atStart =>
   obtain ⟨hS1, hg1, E1⟩ := HW1.out
   refine ⟨0, rfl, Nat.zero_le _, by omega, ?_, hS1.alloc _, grownBy_trans' hg1 (World.grownBy_alloc _ _ _)⟩
   refine ⟨rfl, .inr ⟨w1.heap.size, 1, #[.int .i64 i], rfl, hsz1, World.alloc_heap_new w1 _, Nat.le_refl _, by unfold maxLen; omega, rfl, rfl⟩⟩
 case round =>
   obtain ⟨k, rfl, hk, hgk, hown, hSk, hgk2⟩ := hrel
   have Er := HE.out.kept hgk2
   have hok : VOk l S ((l.take k).foldl (vstep rows i G) ([i], i :: S)) := foldl_ok _ _ (fun j hj => List.mem_of_mem_take hj) (start_ok hi hsi) (fun S' j hj hs' _ _ => HGG.out.2 S' j hj hs') (by simp)
   have hSl1 : S.length + 1 ≤ ((l.take k).foldl (vstep rows i G) ([i], i :: S)).2.length := by
     have h1 := foldl_grow (rows := rows) (i := i) (G := G) (l.take k) ([i], i :: S)
     have h2 := hok.len
     simp only [List.length_cons, List.length_nil] at h1
     omega
   by_cases hlt : k < l.length
   · have hnext : (l.take (k + 1)).foldl (vstep rows i G) ([i], i :: S) = vstep rows i G ((l.take k).foldl (vstep rows i G) ([i], i :: S)) l[k] := by
       rw [List.take_succ_eq_append_getElem hlt, List.foldl_append]; rfl
     generalize (l.take k).foldl (vstep rows i G) ([i], i :: S) = st at hown hSk hok hSl1 hnext
     obtain ⟨C, S'⟩ := st
     dsimp only at hown hSk hSl1
     obtain ⟨ac, cc, hvc⟩ := ownsRow_form hown
     subst hvc
     have hlen := hok.len
     have hsum2 := hok.sum
     dsimp only at hlen hsum2
     obtain ⟨b, off, rfl, hc⟩ := Er.t.slAt.cells_of hlt
     have hcell : wr.cell? ⟨b, off + k, none⟩ = some (.int .i64 (l[k] : Nat)) := hc
     clear hc
     have hjl : l[k] ∈ l := List.getElem_mem _
     have hjn := HL.out _ hjl
     generalize l[k] = j at hcell hjl hjn hnext
     have hbl : b < wr.heap.size := cell_lt hcell
     have hcs := Er.cs
     have hblt := cell_lt hcs
     have HSK := Lib.hid hSk
     have HN := Lib.hid hnext
     have hj6 : j ≤ 1000000 := by omega
     cases hcon : S'.contains j with
     | true =>
       have HV : Hid (vstep rows i G (C, S') j = (C, S')) := by show _ = _; unfold vstep; dsimp only; rw [hcon]; rfl
       have H := Lib.hid (And.intro hown (And.intro hSk hgk2))
       have HC := Lib.hid hcon
       clear hown hSk hgk2 Er hnext hcon hok
       go_wp2_with (at_lookup; refine wpList_seen_look _ rfl _ _ _ rfl Tryz.underlying144 bm S' HSK.out rfl j hj6 rfl _ HC.out ?_)
       go_roundg (gk - 1)
       case measure => omega
       case rel =>
         have hn2 := HN.out.trans HV.out
         refine ⟨k + 1, by go_num, by omega, by omega, ?_, ?_, H.out.2.2⟩
         · rw [hn2]; exact H.out.1
         · rw [hn2]; exact H.out.2.1
     | false =>
       obtain ⟨b2, o2, c2, hv2, hcr⟩ := Er.r.slOf.form hq (by omega)
       obtain ⟨rfl, rfl, rfl⟩ : br = b2 ∧ orr = o2 ∧ cr = c2 := by simpa [and_assoc] using hv2
       obtain ⟨bi, oi, ci, c1, c2⟩ := hcr i j hin hjn
       obtain ⟨bj, oj, cj, c3, c4⟩ := hcr j i hjn hin
       have hrl := related_any (.slice al ml cl) (.slice ae me ce) (.slice (some ⟨br, orr, none⟩) n cr) (.slice av mv cv) n i j rows wr Er.r.slOf hq hin hjn hn
       have hV : vstep rows i G (C, S') j = if adj rows i j then (C ++ (G S' j).1, (G S' j).2) else (C, S') := by unfold vstep; dsimp only; rw [hcon]; simp
       unfold adj at hV
       generalize relat rows i j = x at hrl hV
       generalize rel rows i j = p at c2 hV
       generalize rel rows j i = q at c4 hV
       have hun : unseen l S' ≤ f := by omega
       have hsm : S'.length + unseen l S' ≤ 1000000 := by omega
       have H := Lib.hid (And.intro hown (And.intro hSk hgk2))
       have HC := Lib.hid hcon
       have HR := Lib.hid hrl
       have HV := Lib.hid hV
       have HER := Lib.hid Er
       have HCC := Lib.hid (And.intro c1 (And.intro c2 (And.intro c3 c4)))
       have hx0 := Er.x0
       have hx1 := Er.x1
       have hx2 := Er.x2
       have hx3 := Er.x3
       have hbxl := cell_lt hx0
       clear hown hSk hgk2 Er hnext hcon hok hrl hV hcr hv2 c1 c2 c3 c4
       go_wp2_with (at_lookup; refine wpList_seen_look _ rfl _ _ _ rfl Tryz.underlying144 bm S' HSK.out rfl j hj6 rfl _ HC.out ?_)
       refine HR.out.mono ?_
       rintro e w1 ⟨rfl, hb1⟩
       have hg1w := grownBy_of_below hb1 (some bm)
       have E1 := HER.out.kept hg1w
       have HS1 : Hid (SeenAt w1 bm S') := by
         obtain ⟨D, h1, h2⟩ := HSK.out
         exact Lib.hid ⟨D, h1.kept (grownBy_of_below hb1 none) (by simp), h2⟩
       obtain ⟨c1, c2, c3, c4⟩ := HCC.out
       replace c1 := below_cell hb1 c1
       replace c2 := below_cell hb1 c2
       replace c3 := below_cell hb1 c3
       replace c4 := below_cell hb1 c4
       have y2 := E1.x2
       have yv := E1.cv
       have hl1 := cell_lt c1
       have hl2 := cell_lt c2
       have hl3 := cell_lt c3
       have hl4 := cell_lt c4
       have hl5 := cell_lt y2
       have hl6 := cell_lt yv
       clear hx0 hx1 hx2 hx3 hbxl hcell hbl hcs hblt
       cases x with
       | true =>
         go_wp2_with fail
         refine (HGG.out.1 S' j w1 E1 HS1.out hjl HC.out hun hsm).mono ?_
         rintro e w2 ⟨u, rfl, hown2, hS2, hg2⟩
         have hok2 := HGG.out.2 S' j hjl HC.out
         have HV2 : Hid (vstep rows i G (C, S') j = (C ++ (G S' j).1, (G S' j).2)) := by have := HV.out; exact Lib.hid (by simpa using this)
         generalize G S' j = r at hown2 hS2 hok2 HV2
         obtain ⟨r1, r2⟩ := r
         have hlen2 := hok2.len
         have hsum3 := hok2.sum
         dsimp only at hown2 hS2 hlen2 hsum3
         obtain ⟨au, cu, hu⟩ := ownsRow_form hown2
         subst hu
         have HSRC : Hid (SrcAt w2 (.slice au r1.length cu) r1.length 1 (ints (nats r1))) := by
           have := (ownsRow_slAt hown2).src
           rw [ints_length, nats_length] at this
           exact Lib.hid this
         have HONE : Hid (∀ u ∈ ints (nats r1), u.oneCell' = true) := Lib.hid (oneCell_ints _)
         have HO2 : Hid (w2.ownsRow w.heap.size 3 1 (.slice ac C.length cc) C.length (ints (nats C))) := by
           refine Lib.hid ((ownsRow_below H.out.1 hb1).kept hg2 (.inr fun e => ?_))
           have := (H.out.1.lt bm e).1
           omega
         have HBS : Hid (w.heap.size ≤ w2.heap.size) := Lib.hid (Nat.le_trans H.out.2.2.size (Nat.le_trans hg1w.size hg2.size))
         have HW2 := Lib.hid (And.intro hS2 hg2)
         clear hS2 hg2 hown2 E1 hok2 c1 c2 c3 c4 y2 yv hl1 hl2 hl3 hl4 hl5 hl6
         go_wp2_with (at_builtin; refine wpList_app rfl _ _ _ rfl w.heap.size 3 (.int .i64 0) 1 8 Tryz.underlying29 info_int rfl (by decide) _ C.length (ints (nats C)) rfl HO2.out _ r1.length (ints (nats r1)) rfl HSRC.out HONE.out (by omega) (by omega) HBS.out ?_; intro a' c' w3 hown3 hgrow3 hat3)
         go_roundg (gk - 1)
         case measure => omega
         case rel =>
           have hn2 := HN.out.trans HV2.out
           have hnb : some bm ≠ (Value.slice ac C.length cc).ownBlock := fun e => by
             have := (H.out.1.lt bm e.symm).1
             omega
           refine ⟨k + 1, by go_num, by omega, by omega, ?_, ?_, ?_⟩
           · rw [hn2]
             have e1 : ints (nats (C ++ r1)) = ints (nats C) ++ ints (nats r1) := by simp [ints, nats]
             dsimp only
             rw [e1, List.length_append]
             exact hown3
           · rw [hn2]; exact HW2.out.1.kept hgrow3 hnb
           · exact grownBy_step (grownBy_trans' (grownBy_trans' H.out.2.2 hg1w) HW2.out.2) hgrow3 (fun r e => (H.out.1.lt r e).1)
       | false =>
         cases p with
         | false =>
           go_wp2_with fail
           go_roundg (gk - 1)
           case measure => omega
           case rel =>
             have hn2 : vstep rows i G (C, S') j = (C, S') := by have := HV.out; simpa using this
             replace hn2 := HN.out.trans hn2
             refine ⟨k + 1, by go_num, by omega, by omega, ?_, ?_, grownBy_trans' H.out.2.2 hg1w⟩
             · rw [hn2]; exact ownsRow_below H.out.1 hb1
             · rw [hn2]; exact HS1.out
         | true =>
           cases q with
           | true =>
             go_wp2_with fail
             refine (HGG.out.1 S' j w1 E1 HS1.out hjl HC.out hun hsm).mono ?_
             rintro e w2 ⟨u, rfl, hown2, hS2, hg2⟩
             have hok2 := HGG.out.2 S' j hjl HC.out
             have HV2 : Hid (vstep rows i G (C, S') j = (C ++ (G S' j).1, (G S' j).2)) := by have := HV.out; exact Lib.hid (by simpa using this)
             generalize G S' j = r at hown2 hS2 hok2 HV2
             obtain ⟨r1, r2⟩ := r
             have hlen2 := hok2.len
             have hsum3 := hok2.sum
             dsimp only at hown2 hS2 hlen2 hsum3
             obtain ⟨au, cu, hu⟩ := ownsRow_form hown2
             subst hu
             have HSRC : Hid (SrcAt w2 (.slice au r1.length cu) r1.length 1 (ints (nats r1))) := by
               have := (ownsRow_slAt hown2).src
               rw [ints_length, nats_length] at this
               exact Lib.hid this
             have HONE : Hid (∀ u ∈ ints (nats r1), u.oneCell' = true) := Lib.hid (oneCell_ints _)
             have HO2 : Hid (w2.ownsRow w.heap.size 3 1 (.slice ac C.length cc) C.length (ints (nats C))) := by
               refine Lib.hid ((ownsRow_below H.out.1 hb1).kept hg2 (.inr fun e => ?_))
               have := (H.out.1.lt bm e).1
               omega
             have HBS : Hid (w.heap.size ≤ w2.heap.size) := Lib.hid (Nat.le_trans H.out.2.2.size (Nat.le_trans hg1w.size hg2.size))
             have HW2 := Lib.hid (And.intro hS2 hg2)
             clear hS2 hg2 hown2 E1 hok2 c1 c2 c3 c4 y2 yv hl1 hl2 hl3 hl4 hl5 hl6
             go_wp2_with (at_builtin; refine wpList_app rfl _ _ _ rfl w.heap.size 3 (.int .i64 0) 1 8 Tryz.underlying29 info_int rfl (by decide) _ C.length (ints (nats C)) rfl HO2.out _ r1.length (ints (nats r1)) rfl HSRC.out HONE.out (by omega) (by omega) HBS.out ?_; intro a' c' w3 hown3 hgrow3 hat3)
             go_roundg (gk - 1)
             case measure => omega
             case rel =>
               have hn2 := HN.out.trans HV2.out
               have hnb : some bm ≠ (Value.slice ac C.length cc).ownBlock := fun e => by
                 have := (H.out.1.lt bm e.symm).1
                 omega
               refine ⟨k + 1, by go_num, by omega, by omega, ?_, ?_, ?_⟩
               · rw [hn2]
                 have e1 : ints (nats (C ++ r1)) = ints (nats C) ++ ints (nats r1) := by simp [ints, nats]
                 dsimp only
                 rw [e1, List.length_append]
                 exact hown3
               · rw [hn2]; exact HW2.out.1.kept hgrow3 hnb
               · exact grownBy_step (grownBy_trans' (grownBy_trans' H.out.2.2 hg1w) HW2.out.2) hgrow3 (fun r e => (H.out.1.lt r e).1)
           | false =>
             go_wp2_with fail
             go_roundg (gk - 1)
             case measure => omega
             case rel =>
               have hn2 : vstep rows i G (C, S') j = (C, S') := by have := HV.out; simpa using this
               replace hn2 := HN.out.trans hn2
               refine ⟨k + 1, by go_num, by omega, by omega, ?_, ?_, grownBy_trans' H.out.2.2 hg1w⟩
               · rw [hn2]; exact ownsRow_below H.out.1 hb1
               · rw [hn2]; exact HS1.out
   · obtain rfl : k = l.length := by omega
     rw [List.take_of_length_le (Nat.le_refl _)] at hown hSk
     generalize hst : l.foldl (vstep rows i G) ([i], i :: S) = st at hown hSk
     have HST := Lib.hid hst
     clear hst
     obtain ⟨ac, cc, hvc⟩ := ownsRow_form hown
     subst hvc
     have H := Lib.hid (And.intro hown (And.intro hSk hgk2))
     clear hown hSk hgk2 Er
     go_wp2_with fail
     go_ret
     unfold VPost
     rw [HST.out]
     exact ⟨.slice ac st.1.length cc, rfl, H.out.1, H.out.2.1, H.out.2.2⟩
theorem visit_any (bm Bs Bl Bx Bv n : Nat) (vl ve vr vv vt : Value) (rows : List (List Bool)) (l : List Nat) (hq : Sq n rows) (hn : n ≤ 1000000) (hl : ∀ j ∈ l, j < n) (hll : l.length ≤ 1000000)
   (hvl : ∃ a c m, vl = .slice a m c) (hve : ∃ a c m, ve = .slice a m c) (hvv : ∃ a c m, vv = .slice a m c) : ∀ (f : Nat) (S : List Nat) (i : Nat) (w : World),
   VEnv w bm Bs Bl Bx Bv vl ve vr vv vt rows l → SeenAt w bm S → i ∈ l → S.contains i = false → unseen l S ≤ f + 1 → S.length + unseen l S ≤ 1000000 →
   Calls Tryz.prog 106 #[.int .i64 i, .pointer (some ⟨Bs, 0, none⟩), .pointer (some ⟨Bl, 0, none⟩), .pointer (some ⟨Bx, 0, none⟩), .pointer (some ⟨Bv, 0, none⟩)] w (VPost w bm (visit rows l f S i))
 | 0, S, i, w, hE, hS, hi, hs, hf, hsum =>
   visit_walk bm Bs Bl Bx Bv n vl ve vr vv vt rows l hq hn hl hll (fun S _ => ([], S)) 0 S i w (fun S' j _ _ _ hj hs' hu _ => absurd (unseen_pos hj hs') (by omega)) (fun S' j _ _ => ⟨by simp, by simp, by simp⟩) hvl hve hvv hE hS hi hs hf hsum
 | f + 1, S, i, w, hE, hS, hi, hs, hf, hsum =>
   visit_walk bm Bs Bl Bx Bv n vl ve vr vv vt rows l hq hn hl hll (visit rows l f) (f + 1) S i w (fun S' j w' hE' hS' hj hs' hu hsm => visit_any bm Bs Bl Bx Bv n vl ve vr vv vt rows l hq hn hl hll hvl hve hvv f S' j w' hE' hS' hj hs' hu hsm) (fun S' j hj hs' => visit_ok rows l f S' j hj hs') hvl hve hvv hE hS hi hs hf hsum
end Go.Proofs.Lg
