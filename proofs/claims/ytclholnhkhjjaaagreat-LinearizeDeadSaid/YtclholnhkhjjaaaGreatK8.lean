/-
  Part K8 of this claim's proof. Joined by merge.py from the texts of wip/tpl.
-/
import Derived.Test.YtclholnhkhjjaaaGreatPA
import Derived.Test.YtclholnhkhjjaaaGreatShelfE
import Derived.Test.YtclholnhkhjjaaaGreatAb1
import Derived.Shelf.SlSortCmp.NoneTotal
set_option linter.unusedVariables false
set_option linter.unusedSimpArgs false
set_option linter.unnecessarySimpa false
namespace Go.Proofs.Lg
open Go Go.RowKit Go.Shelf Go.Sort

/-- Edges whose ends are small. -/
def SmE (e : Int × Int) : Prop := (-1 ≤ e.1 ∧ e.1 ≤ 1000000) ∧ (-1 ≤ e.2 ∧ e.2 ≤ 1000000)

set_option maxHeartbeats 1000000 in
theorem without2_x (x y : Int × Int) (hx : SmE x) (hy : SmE y) (w : World) :
    Calls Tryz.prog 52 #[.agg (edgeCells x).toArray, .agg (edgeCells y).toArray] w fun e w' => e = .returned (.int .i64 (subE x y)) ∧ ∃ q os', w' = grow (w.drewN q) os' := by
  obtain ⟨a1, a2⟩ := x
  obtain ⟨b1, b2⟩ := y
  obtain ⟨h1, h2⟩ := hx
  obtain ⟨h3, h4⟩ := hy
  dsimp only at h1 h2 h3 h4
  show Calls _ _ #[.agg #[.int .i64 a1, .int .i64 a2], .agg #[.int .i64 b1, .int .i64 b2]] w _
  by_cases hne : a1 = b1
  · have e1 : subE (a1, a2) (b1, b2) = a2 - b2 := if_neg (by simp [hne])
    have k1 : (a1 != b1) = false := by simp [hne]
    rw [e1]
    clear hne
    go_enter Tryz.func52, Tryz.ntmps52
    go_wp2
    go_ret
    exact ⟨by go_num, 0, _, by rw [alloc_eq_grow, alloc_eq_grow, grow_grow]; rfl⟩
  · have e1 : subE (a1, a2) (b1, b2) = a1 - b1 := if_pos hne
    have k1 : (a1 != b1) = true := by simp [hne]
    rw [e1]
    clear hne
    go_enter Tryz.func52, Tryz.ntmps52
    go_wp2
    go_ret
    exact ⟨by go_num, 0, _, by rw [alloc_eq_grow, alloc_eq_grow, grow_grow]; rfl⟩

theorem flatK_list {α : Type} [Inhabited α] (enc : α → List Value) (k : Nat) (h0 : 0 < k) (hk : ∀ x, (enc x).length = k) (d : Array α) : (flatK enc k d).toList = (d.toList.map enc).flatten := by
  have hl : ∀ r ∈ d.toList.map enc, r.length = k := fun r hr => by obtain ⟨x, _, rfl⟩ := List.mem_map.1 hr; exact hk x
  have hfl := Go.Ab.flatten_len _ hl
  have hfl : (d.toList.map enc).flatten.length = d.size * k := by rw [hfl, List.length_map, Array.length_toList]
  apply List.ext_getElem?
  intro i
  by_cases hi : i < d.size * k
  · have hq : i / k < d.size := Nat.div_lt_of_lt_mul (by rw [Nat.mul_comm]; exact hi)
    have hrow := Go.Ab.flatten_row _ hl (i / k) (enc d[i / k]) (by simp [hq])
    have hm : i % k < k := Nat.mod_lt _ h0
    have hdm : i / k * k + i % k = i := by rw [Nat.mul_comm]; exact Nat.div_add_mod i k
    have hx : ((d.toList.map enc).flatten)[i]? = (enc d[i / k])[i % k]? := by
      rw [← hrow, List.getElem?_take, if_pos hm, List.getElem?_drop, hdm]
    have hs : i < (flatK enc k d).size := by simpa using hi
    have hg := get_flatK enc k d i hi
    have hmk : i % k < (enc d[i / k]).length := by rw [hk]; exact hm
    rw [getElem!_pos (flatK enc k d) i hs, getElem!_pos d (i / k) hq, getElem!_pos (enc d[i / k]) (i % k) hmk] at hg
    rw [hx, Array.getElem?_toList, Array.getElem?_eq_getElem hs, hg, List.getElem?_eq_getElem hmk]
  · rw [List.getElem?_eq_none (by simpa using hi), List.getElem?_eq_none (by omega)]

theorem heap_sortedK {w : World} {g n : Nat} {os : Array Obj} {cur : Array Value} {e : TypeId} {fr : Nat × Nat} (F : Array Value) (hb : w.heap[g]? = some (.cells cur e fr)) :
    (grow (putRow id (Sort.ahead w n) g 0 F) os).heap[g]? = some (.cells (putCells id 0 F cur) e fr) := by
  have hg : g < w.heap.size := (Array.getElem?_eq_some_iff.1 hb).1
  rw [heap_grow_old _ _ (by simpa using hg)]
  simp [putRow, mapBlock, Sort.ahead, Array.getElem?_modify, hb, onCells]

theorem grownBy_sortedK {w : World} {g n : Nat} {os : Array Obj} (F : Array Value) : w.grownBy (grow (putRow id (Sort.ahead w n) g 0 F) os) (some g) := by
  refine ⟨rfl, rfl, rfl, by simp, fun k hk hne => ?_⟩
  rw [heap_grow_old _ _ (by simpa using hk)]
  have : g ≠ k := fun e => hne (by rw [e])
  simp [putRow, mapBlock, Sort.ahead, Array.getElem?_modify, this]

theorem take_putCellsK (cur F : Array Value) (h : F.size ≤ cur.size) : (putCells id 0 F cur).toList.take F.size = F.toList := by
  apply List.ext_getElem?
  intro j
  by_cases hj : j < F.size
  · rw [List.getElem?_take_of_lt hj, Array.getElem?_toList, Array.getElem?_toList]
    simp [putCells, hj, show j < cur.size by omega]
  · rw [List.getElem?_take_eq_none (by omega), List.getElem?_eq_none (by simp; omega)]

theorem edge_one (l : List (Int × Int)) : ∀ u ∈ (l.map edgeCells).flatten, u.oneCell' = true := by
  intro u hu
  obtain ⟨r, hr, hur⟩ := List.mem_flatten.1 hu
  obtain ⟨x, _, rfl⟩ := List.mem_map.1 hr
  simp [edgeCells] at hur
  rcases hur with rfl | rfl <;> rfl
theorem edge_len (l : List (Int × Int)) : (l.map edgeCells).flatten.length = l.length * 2 := by
  rw [Go.Ab.flatten_len (sz := 2) _ fun r hr => by obtain ⟨x, _, rfl⟩ := List.mem_map.1 hr; rfl, List.length_map]

theorem SortEdges_any (l : List (Int × Int)) (g c base : Nat) (w : World) (hl : ∀ e ∈ l, SmE e) (hn : l.length ≤ 1000000) (hown : w.ownsRow base 74 2 (.slice (some ⟨g, 0, none⟩) l.length c) l.length (l.map edgeCells).flatten) :
    Calls Tryz.prog 51 #[.slice (some ⟨g, 0, none⟩) l.length c, .func (.func 52) #[] #[]] w fun e w' =>
      e = .returned (.tuple #[]) ∧ w'.ownsRow base 74 2 (.slice (some ⟨g, 0, none⟩) l.length c) l.length ((l.mergeSort leE).map edgeCells).flatten ∧ w.grownBy w' (some g) := by
  haveI : Inhabited { e : Int × Int // SmE e } := ⟨⟨(0, 0), by unfold SmE; dsimp only; omega⟩⟩
  rcases hown.2 with ⟨h, _⟩ | ⟨g', cap, cur, hv, hbg, hg, hncap, hcm, hcs, htake⟩
  · simp at h
  obtain ⟨rfl, rfl⟩ : g = g' ∧ c = cap := by simpa using hv
  have hgl : g < w.heap.size := (Array.getElem?_eq_some_iff.1 hg).1
  let enc : { e : Int × Int // SmE e } → List Value := fun x => edgeCells x.1
  have hk : ∀ x, (enc x).length = 2 := fun _ => rfl
  have h1 : ∀ x, ∀ v ∈ enc x, v.oneCell' = true := fun x v hv => by simp [enc, edgeCells] at hv; rcases hv with rfl | rfl <;> rfl
  have hval : (l.attachWith SmE hl).map Subtype.val = l := List.attachWith_map_subtype_val ..
  have hlen : (l.attachWith SmE hl).length = l.length := by simp
  have hflat : (flatK enc 2 (l.attachWith SmE hl).toArray).toList = (l.map edgeCells).flatten := by
    rw [flatK_list enc 2 (by omega) hk]
    congr 1
    conv => rhs; rw [← hval, List.map_map]
    rfl
  have hH : HoldsK enc 2 w g 0 (l.attachWith SmE hl).toArray := by
    intro j hj
    have hj' : j < l.length * 2 := by simpa using hj
    refine ⟨?_, by simp [World.frozen?, hg]⟩
    have e1 : (flatK enc 2 (l.attachWith SmE hl).toArray)[j]? = cur[j]? := by
      rw [← Array.getElem?_toList, hflat, ← htake, List.getElem?_take_of_lt hj', Array.getElem?_toList]
    have hjs : j < (flatK enc 2 (l.attachWith SmE hl).toArray).size := by simpa using hj'
    rw [Array.getElem?_eq_getElem hjs] at e1
    rw [getElem!_pos _ j hjs]
    simp only [World.cell?, hg, Nat.zero_add]
    simp only [Option.isSome_none, Bool.false_eq_true, if_false]
    exact e1.symm
  have hcmp : CmpLays Tryz.prog 52 #[] enc 2 (fun x y => subE x.1 y.1) g 0 (l.attachWith SmE hl).toArray.size w := fun m os dk _ x y => without2_x x.1 y.1 x.2 y.2 _
  have hlt : ∀ x y : { e : Int × Int // SmE e }, ltOf (fun x y : { e : Int × Int // SmE e } => subE x.1 y.1) x y = !leE y.1 x.1 := fun x y => by
    unfold ltOf
    have := subE_leE y.1 x.1
    cases h : leE y.1 x.1 with
    | false => simpa using this.2 h
    | true => simp; exact Classical.byContradiction fun h2 => by rw [this.1 (by omega)] at h; cases h
  have hO : SWO (ltOf (fun x y : { e : Int × Int // SmE e } => subE x.1 y.1)) := by
    refine ⟨fun x => ?_, fun x y z => ?_, fun x y z => ?_⟩
    · rw [hlt]; simp [leE]
    · rw [hlt, hlt, hlt]
      simp only [leE, Bool.not_eq_true', decide_eq_false_iff_not]
      omega
    · rw [hlt, hlt, hlt]
      simp only [leE, Bool.not_eq_false', decide_eq_true_eq]
      omega
  have hT : ∀ x y : { e : Int × Int // SmE e }, ltOf (fun x y : { e : Int × Int // SmE e } => subE x.1 y.1) x y = false → ltOf (fun x y : { e : Int × Int // SmE e } => subE x.1 y.1) y x = false → x = y := by
    intro x y h1 h2
    rw [hlt] at h1 h2
    apply Subtype.ext
    obtain ⟨⟨a1, a2⟩, _⟩ := x
    obtain ⟨⟨b1, b2⟩, _⟩ := y
    simp only [leE, Bool.not_eq_false', decide_eq_true_eq] at h1 h2
    have : a1 = b1 ∧ a2 = b2 := by omega
    show (a1, a2) = (b1, b2)
    rw [this.1, this.2]
  have key := AnyQ.slices_SortFunc_total Tryz.laysSortEdge 2 Tryz.isAgg74 Tryz.sizeOf74 enc hk h1 (fun x y => subE x.1 y.1) hO 52 #[] g 0 c (l.attachWith SmE hl).toArray w (enters_of Tryz.func52 (by kernel_rfl) rfl) hcmp hH hgl (by simp; omega) hT
  have hsz : (l.attachWith SmE hl).toArray.size = l.length := by simp
  rw [hsz] at key
  refine Calls.mono (show Calls Tryz.prog 51 _ _ _ from key) ?_
  rintro e w' ⟨he, m, os, rfl⟩
  refine ⟨he, ?_, grownBy_sortedK _⟩
  have hms : ((l.attachWith SmE hl).mergeSort fun x y => !ltOf (fun x y : { e : Int × Int // SmE e } => subE x.1 y.1) y x).map Subtype.val = l.mergeSort leE := by
    rw [List.map_mergeSort (s := leE) (fun a _ b _ => by rw [hlt, Bool.not_not]), hval]
  have hfl2 : (flatK enc 2 (((l.attachWith SmE hl).toArray.toList.mergeSort fun x y => !ltOf (fun x y : { e : Int × Int // SmE e } => subE x.1 y.1) y x).toArray)).toList = ((l.mergeSort leE).map edgeCells).flatten := by
    rw [flatK_list enc 2 (by omega) hk]
    congr 1
    conv => rhs; rw [← hms, List.map_map]
    rfl
  unfold sortWorldK putRowK
  generalize flatK enc 2 (((l.attachWith SmE hl).toArray.toList.mergeSort fun x y => !ltOf (fun x y : { e : Int × Int // SmE e } => subE x.1 y.1) y x).toArray) = F at hfl2
  have hFs : F.size = l.length * 2 := by rw [← Array.length_toList, hfl2, edge_len, List.length_mergeSort]
  have hle : F.size ≤ cur.size := by rw [hFs, hcs]; omega
  have ht := take_putCellsK cur F hle
  rw [hfl2, hFs] at ht
  exact ⟨by rw [edge_len, List.length_mergeSort], .inr ⟨g, c, _, rfl, hbg, heap_sortedK _ hg, hncap, hcm, by simp [putCells, hcs], ht⟩⟩
end Go.Proofs.Lg
