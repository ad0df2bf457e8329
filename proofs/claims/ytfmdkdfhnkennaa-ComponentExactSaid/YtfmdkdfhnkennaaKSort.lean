/- 'slices.SortFunc' on an own list. -/
import Derived.Test.YtfmdkdfhnkennaaK8
import Derived.Shelf.SlSortCmp.NoneTotal
set_option linter.unusedVariables false
set_option linter.unusedSimpArgs false
set_option linter.unusedSectionVars false
namespace Go.K
open Rep Go.Proofs Go.Shelf Go.Sort

theorem ext_grow {W w' : World} (h : Ext (fun _ => False) W w') : ∃ q os', w' = grow (W.drewN q) os' := by
  refine ⟨w'.drawn - W.drawn, w'.heap.extract W.heap.size w'.heap.size, ?_⟩
  obtain ⟨h1, h2, h3, h4, h5, h6⟩ := h
  obtain ⟨hp, tp, dr, os, out⟩ := w'
  simp only at h1 h2 h3 h4 h5 h6
  subst h1 h2 h3
  simp only [grow, World.drewN, World.mk.injEq, and_true, true_and]
  refine ⟨?_, by omega⟩
  apply Array.ext_getElem?
  intro b
  rw [Array.getElem?_append]
  split
  · rename_i hb; exact h5 b hb (fun h => h)
  · rename_i hb
    rw [Array.getElem?_extract]
    simp only [Nat.min_self]
    split
    · congr 1; omega
    · rw [Array.getElem?_eq_none (by omega)]

section
variable {P : Program} {ρ : Ren} {α : Type} [Inhabited α] [Rep α] {enc : α → List Value} {cf : α → α → Int} {w : World} {C : Nat → Nat} {j g0 : Nat} {e : TypeId} {v : Value} {ys : List α}
/-- The order of the sort. -/
def leOf (cf : α → α → Int) : α → α → Bool := fun x y => !(ltOf cf) y x

theorem putCells_get {F cs : Array Value} (h : F.size ≤ cs.size) (t : Nat) : (putCells id 0 F cs)[t]? = if t < F.size then F[t]? else cs[t]? := by
  unfold putCells
  rw [Array.getElem?_mapIdx]
  by_cases ht : t < cs.size
  · rw [Array.getElem?_eq_getElem ht]
    simp only [Option.map_some, Nat.zero_le, true_and, Nat.zero_add, Nat.sub_zero, id]
    split
    · rename_i h1; rw [Array.getElem?_eq_getElem h1, getElem!_pos F t h1]
    · rfl
  · rw [Array.getElem?_eq_none (by omega), if_neg (by omega)]; rfl
theorem flatK_get {k : Nat} (hk : ∀ x, (enc x).length = k) (d : Array α) {i r : Nat} (hi : i < d.size) (hr : r < k) : (flatK enc k d)[i * k + r]? = (enc d[i])[r]? := by
  have hlt : i * k + r < d.size * k := by
    have := Nat.mul_le_mul_right k (show i + 1 ≤ d.size from hi)
    rw [Nat.succ_mul] at this; omega
  have hdiv : (i * k + r) / k = i := by rw [Nat.mul_comm, Nat.mul_add_div (by omega), Nat.div_eq_of_lt hr]; rfl
  have hmod : (i * k + r) % k = r := by rw [Nat.mul_comm, Nat.mul_add_mod, Nat.mod_eq_of_lt hr]
  have h := get_flatK enc k d (i * k + r) hlt
  rw [hdiv, hmod, getElem!_pos d i hi, getElem!_pos (flatK enc k d) _ (by rw [size_flatK]; exact hlt), getElem!_pos (enc d[i]) r (by rw [hk]; exact hr)] at h
  rw [Array.getElem?_eq_getElem (by rw [size_flatK]; exact hlt), h, List.getElem?_eq_getElem]

/-- An own list is sorted. -/
theorem sort_own (L : SlLaysF0.n6 P ρ) (aE : ∀ w, (isAgg (ρ.t 24)).run P w = .ok true w) (zE : ∀ w, (Go.sizeOf (ρ.t 24)).run P w = .ok (sz α) w)
    (henc : ∀ h M x vs, rep h M x vs ↔ vs = enc x) (hk : ∀ x : α, (enc x).length = sz α) (h0 : 0 < sz α) (h1 : ∀ x, ∀ u ∈ enc x, u.oneCell' = true) (hO : SWO (ltOf cf)) (hT : ∀ x y, (ltOf cf) x y = false → (ltOf cf) y x = false → x = y)
    (eg : ∀ args w, (callFunc g0 args).run P w = .ok (.enter g0 args) w)
    (hcmp : ∀ W x y, Calls P g0 #[.agg (enc x).toArray, .agg (enc y).toArray] W (Ret fun u w' => u = .int .i64 (cf x y) ∧ Ext (fun _ => False) W w'))
    (hF : Lim w C) (ho : OwnL w C j e v ys) (hlen : ys.length ≤ 140737488355328) :
    Calls P (ρ.f 6) #[v, .func (.func g0) #[] #[]] w (Ret fun u w' => u = .tuple #[] ∧ Stp [j] w C w' C ∧ OwnL w' C j e v (ys.mergeSort (leOf cf)) ∧ Lim w' C) := by
  obtain ⟨hown, hcol⟩ := ho
  rcases hown with ⟨rfl, rfl⟩ | ⟨g, cap, cs, rfl, hg, hc, hcap, h2, h3⟩
  · refine (AnyF.slices_SortFunc_none (P := P) (ρ := ρ) { L with } none 0 (.func (.func g0) #[] #[]) w).mono ?_
    rintro e' w' ⟨rfl, rfl⟩
    exact ⟨_, rfl, rfl, Stp.refl _ _ _, by simpa using (OwnL.nil (α := α)), hF⟩
  · have hcell : ∀ i (hi : i < ys.length) r, r < sz α → cs[i * sz α + r]? = (enc ys[i])[r]? := fun i hi r hr => by
      have h := (henc _ _ _ _).1 (h3 i hi)
      have := congrArg (fun l => l[r]?) h
      simp only [cellsAt, List.getElem?_take, if_pos hr, List.getElem?_drop, Array.getElem?_toList] at this
      exact this
    have hH : HoldsK enc (sz α) w g 0 ys.toArray := fun t ht => by
      rw [size_flatK] at ht
      simp only [List.size_toArray] at ht
      have hi : t / sz α < ys.length := Nat.div_lt_of_lt_mul (by rwa [Nat.mul_comm] at ht)
      have hr := Nat.mod_lt t h0
      have hsum : t / sz α * sz α + t % sz α = t := by rw [Nat.mul_comm]; exact Nat.div_add_mod t (sz α)
      have h5 := hcell _ hi _ hr
      have h6 := flatK_get hk ys.toArray (i := t / sz α) (r := t % sz α) (by simpa using hi) hr
      rw [hsum] at h5 h6
      refine ⟨?_, ?_⟩
      · rw [cell_of_row w g (0 + t) cs e (0, 0) hc, Nat.zero_add, h5]
        simp only [List.getElem_toArray] at h6
        rw [← h6, id]
        rw [getElem!_pos _ t (by rw [size_flatK]; simpa using ht), Array.getElem?_eq_getElem]
      · simp [World.frozen?, hc]
    have hlays : CmpLays P g0 #[] enc (sz α) cf g 0 ys.toArray.size w := fun m os dk hd x y => by
      have h := hcmp (sortWorldK enc (sz α) w g 0 m dk os) x y
      rw [Array.append_empty]
      refine h.mono ?_
      rintro e' w' ⟨u, rfl, rfl, hx⟩
      exact ⟨rfl, ext_grow hx⟩
    have hsort := AnyQ.slices_SortFunc_total L (sz α) aE zE enc hk h1 cf hO g0 #[] g 0 cap ys.toArray w eg hlays hH (lt_of_at hc) (by simp; omega) hT
    refine hsort.mono ?_
    rintro e' w' ⟨rfl, n, os, hw⟩
    have hperm := List.mergeSort_perm ys (leOf cf)
    have hl := hperm.length_eq
    have hle : (flatK enc (sz α) (ys.mergeSort (leOf cf)).toArray).size ≤ cs.size := by
      rw [size_flatK, h2]; simp only [List.size_toArray, hl]; exact Nat.mul_le_mul_right _ hcap
    have hat : w'.heap[g]? = some (.cells (putCells id 0 (flatK enc (sz α) (ys.mergeSort (leOf cf)).toArray) cs) e (0, 0)) := by
      rw [hw]
      show (grow (putRow id (Sort.ahead w n) g 0 (flatK enc (sz α) (ys.mergeSort (leOf cf)).toArray)) os).heap[g]? = _
      simp only [grow, putRow, mapBlock, Sort.ahead]
      rw [Array.getElem?_append_left (by simpa using lt_of_at hc), Array.getElem?_modify, if_pos rfl, hc]
      rfl
    have hstp : Stp [j] w C w' C := ⟨⟨by rw [hw]; rfl, by rw [hw]; rfl, by rw [hw]; rfl, by
        rw [hw]
        show w.heap.size ≤ (grow (putRow id (Sort.ahead w n) g 0 _) os).heap.size
        simp [grow, putRow, mapBlock, Sort.ahead], fun b hb hn => by
        have hbg : g ≠ b := fun e => hn (by rw [← e, hcol g rfl]; simp)
        rw [hw]
        show (grow (putRow id (Sort.ahead w n) g 0 _) os).heap[b]? = _
        simp only [grow, putRow, mapBlock, Sort.ahead]
        rw [Array.getElem?_append_left (by simpa using hb), Array.getElem?_modify, if_neg hbg], by
        rw [hw]
        exact Nat.le_add_right _ _⟩, fun _ _ => rfl⟩
    refine ⟨_, rfl, rfl, hstp, ⟨.inr ⟨g, cap, _, by rw [hl], hg, hat, by rw [hl]; exact hcap, ?_, ?_⟩, hcol⟩, hF.st hstp⟩
    · simp only [putCells, Array.size_mapIdx]; exact h2
    · intro i hi
      refine (henc _ _ _ _).2 ?_
      apply List.ext_getElem?
      intro r
      simp only [cellsAt, List.getElem?_take, List.getElem?_drop, Array.getElem?_toList]
      split
      · rename_i hr
        have hlt : i * sz α + r < (flatK enc (sz α) (ys.mergeSort (leOf cf)).toArray).size := by
          rw [size_flatK]; simp only [List.size_toArray]
          have := Nat.mul_le_mul_right (sz α) (show i + 1 ≤ _ from hi)
          rw [Nat.succ_mul] at this; omega
        rw [putCells_get hle, if_pos hlt, flatK_get hk _ (by simpa using hi) hr]
        simp
      · rename_i hr
        rw [List.getElem?_eq_none (by rw [hk]; omega)]
end
end Go.K
