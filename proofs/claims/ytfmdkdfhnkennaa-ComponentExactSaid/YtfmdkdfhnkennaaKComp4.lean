/- The document's components: insertion, labels that sink; they are those of the forest. -/
import Derived.Test.YtfmdkdfhnkennaaKCompF
import Derived.Test.YtfmdkdfhnkennaaKPlan2
set_option linter.unusedVariables false
set_option linter.unusedSimpArgs false
namespace Go.K
theorem ltB_ltP {x y : Couple} : ltB x y = decide (ltP x y) := by rw [Bool.eq_iff_iff, decide_eq_true_iff, ltB_iff]; rfl
theorem mem_endsS {l : List Bond} {r : Couple} : r ∈ endsS l ↔ r ∈ refsS l := by
  rw [mem_refsS]; unfold endsS; simp only [List.mem_flatMap, List.mem_cons, List.not_mem_nil, or_false]
theorem refA_ends (l : List Bond) : refA (endsS l) = refsS l := by
  obtain ⟨h1, h2⟩ := refA_spec (endsS l) [] List.Pairwise.nil
  refine sorted_ext (h1.imp fun {x y} h => by rw [ltB_ltP] at h; exact of_decide_eq_true h) (refsS_sorted l) fun r => ?_
  have := h2 r
  unfold refA
  rw [this]; simp [mem_endsS]
theorem refA_take2 {l : List Bond} {i : Nat} (h : i < l.length) : refA (endsS (l.take (i + 1))) = insC (insC (refA (endsS (l.take i))) l[i].A) l[i].B := by
  rw [endsS_take h, show [l[i].A, l[i].B] = [l[i].A] ++ [l[i].B] from rfl, ← List.append_assoc, refA_snoc, refA_snoc]
/-- What the labels are at any time. -/
structure Lw (l : List Bond) (low : List Nat) : Prop where
  len : low.length = (refsS l).length
  le : ∀ i (h : i < low.length), low[i] ≤ i
  same : ∀ i (h : i < low.length) (h1 : i < (refsS l).length) (h2 : low[i] < (refsS l).length), rhoS l (refsS l)[low[i]] = rhoS l (refsS l)[i]
theorem Lw.start (l : List Bond) : Lw l (List.range (refsS l).length) := ⟨List.length_range, fun i h => by simp, fun i h h1 h2 => by simp⟩
theorem Lw.put {l : List Bond} {low : List Nat} (h : Lw l low) {a b : Nat} {y : Bond} (hy : y ∈ l) (ha : a < (refsS l).length) (hb : b < (refsS l).length) (ea : (refsS l)[a] = y.A) (eb : (refsS l)[b] = y.B) (ha' : a < low.length) (hb' : b < low.length) (hne : low[a] ≠ low[b]) :
    Lw l ((low.set a (min low[a] low[b])).set b (min low[a] low[b])) ∧ ((low.set a (min low[a] low[b])).set b (min low[a] low[b])).sum < low.sum := by
  have hl := h.len
  have la := h.le a ha'
  have lb := h.le b hb'
  have hs : rhoS l (refsS l)[a] = rhoS l (refsS l)[b] := by rw [ea, eb]; exact rho_edge hy
  have sa := h.same a ha' ha (by omega)
  have sb := h.same b hb' hb (by omega)
  have hab : a ≠ b := fun e => by subst e; exact hne rfl
  refine ⟨⟨by simp only [List.length_set]; exact hl, fun i hi => ?_, fun i hi h1 h2 => ?_⟩, ?_⟩
  · simp only [List.length_set] at hi
    simp only [List.getElem_set]
    split
    · subst i; exact Nat.le_trans (Nat.min_le_right _ _) lb
    · split
      · subst i; exact Nat.le_trans (Nat.min_le_left _ _) la
      · exact h.le i hi
  · simp only [List.length_set] at hi
    have hm : ∀ (h3 : min low[a] low[b] < (refsS l).length), rhoS l (refsS l)[min low[a] low[b]] = rhoS l (refsS l)[a] := fun h3 => by
      rcases Nat.le_total low[a] low[b] with e | e
      · simp only [Nat.min_eq_left e]; exact sa
      · simp only [Nat.min_eq_right e]; rw [sb, hs]
    have key : ∀ (n : Nat) (h3 : n < (refsS l).length), n = (if b = i then min low[a] low[b] else if a = i then min low[a] low[b] else low[i]) → rhoS l (refsS l)[n] = rhoS l (refsS l)[i] := fun n h3 e => by
      split at e
      · rename_i e2; subst e2; subst e; rw [hm h3, hs]
      · split at e
        · rename_i e2; subst e2; subst e; exact hm h3
        · subst e; exact h.same i hi h1 h3
    exact key _ h2 (by simp only [List.getElem_set])
  · have hset : ∀ (l : List Nat) (i v : Nat) (hi : i < l.length), (l.set i v).sum + l[i] = l.sum + v := by
      intro l
      induction l with
      | nil => intro i v hi; simp at hi
      | cons x l ih =>
        intro i v hi
        cases i with
        | zero => simp; omega
        | succ i => simp only [List.set_cons_succ, List.sum_cons, List.getElem_cons_succ]; have := ih i v (by simpa using hi); omega
    have e1 := hset low a (min low[a] low[b]) ha'
    have e2 := hset (low.set a (min low[a] low[b])) b (min low[a] low[b]) (by simpa using hb')
    rw [List.getElem_set, if_neg hab] at e2
    have := Nat.min_le_left low[a] low[b]
    have := Nat.min_le_right low[a] low[b]
    rcases Nat.lt_or_gt_of_ne hne with e | e
    · rw [Nat.min_eq_left (Nat.le_of_lt e)] at *; omega
    · rw [Nat.min_eq_right (Nat.le_of_lt e)] at *; omega
/-- No bond joins different labels. -/
def Fix (l ys : List Bond) (low : List Nat) : Prop := ∀ y ∈ ys, ∀ a b (ha : a < (refsS l).length) (hb : b < (refsS l).length), (refsS l)[a] = y.A → (refsS l)[b] = y.B → low.getD a 0 = low.getD b 0
theorem ref_at {l : List Bond} {r : Couple} (h : r ∈ refsS l) : ∃ a, ∃ ha : a < (refsS l).length, (refsS l)[a] = r := by
  obtain ⟨a, ha, e⟩ := List.mem_iff_getElem.1 h; exact ⟨a, ha, e⟩
theorem nodup_inj {α : Type} {l : List α} (h : l.Nodup) {i j : Nat} (hi : i < l.length) (hj : j < l.length) (e : l[i] = l[j]) : i = j := by
  rcases Nat.lt_trichotomy i j with h1 | h1 | h1
  · exact absurd e (List.pairwise_iff_getElem.1 h i j hi hj h1)
  · exact h1
  · exact absurd e.symm (List.pairwise_iff_getElem.1 h j i hj hi h1)
open Classical in
theorem Fix.all {l : List Bond} {low : List Nat} (h : Fix l l low) {i k : Nat} (hi : i < (refsS l).length) (hk : k < (refsS l).length) (e : rhoS l (refsS l)[i] = rhoS l (refsS l)[k]) : low.getD i 0 = low.getD k 0 := by
  let p : Couple → Nat := fun r => if h : ∃ a, ∃ ha : a < (refsS l).length, (refsS l)[a] = r then low.getD (Classical.choose h) 0 else 0
  have hp : ∀ a (ha : a < (refsS l).length), p (refsS l)[a] = low.getD a 0 := fun a ha => by
    have hx : ∃ a', ∃ ha' : a' < (refsS l).length, (refsS l)[a'] = (refsS l)[a] := ⟨a, ha, rfl⟩
    show (if h : _ then _ else 0) = _
    rw [dif_pos hx]
    obtain ⟨h1, h2⟩ := Classical.choose_spec hx
    rw [nodup_inj (refsS_nodup l) h1 ha h2]
  have hb : ∀ x ∈ l, p x.A = p x.B := fun x hx => by
    obtain ⟨a, ha, ea⟩ := ref_at (l := l) (r := x.A) (mem_refsS.2 ⟨x, hx, .inl rfl⟩)
    obtain ⟨b, hb, eb⟩ := ref_at (l := l) (r := x.B) (mem_refsS.2 ⟨x, hx, .inr rfl⟩)
    rw [← ea, ← eb, hp a ha, hp b hb]
    exact h x hx a b ha hb ea eb
  rw [← hp i hi, ← hp k hk, ← rho_inv hb (refsS l)[i], e, rho_inv hb]
/-- A label that is its own place is that of a component's first ref. -/
theorem low_first {l : List Bond} {low : List Nat} (hw : Lw l low) (hx : Fix l l low) {i : Nat} (hi : i < (refsS l).length) (hil : i < low.length) : low[i] = i ↔ ∀ q ∈ (refsS l).take i, rhoS l q ≠ rhoS l (refsS l)[i] := by
  have gd : ∀ k (hk : k < low.length), low.getD k 0 = low[k] := fun k hk => by rw [List.getD_eq_getElem?_getD, List.getElem?_eq_getElem hk]; rfl
  have hl := hw.len
  constructor
  · intro e q hq hr
    obtain ⟨k, hk, rfl⟩ := List.mem_iff_getElem.1 hq
    rw [List.length_take] at hk
    rw [List.getElem_take] at hr
    have h1 := hx.all (by omega) hi hr
    rw [gd k (by omega), gd i hil, e] at h1
    have := hw.le k (by omega)
    omega
  · intro h
    have h1 := hw.le i hil
    have h2 := hw.same i hil hi (by omega)
    rcases Nat.lt_or_eq_of_le h1 with h3 | h3
    · exact absurd h2 (h _ (by rw [List.mem_iff_getElem]; exact ⟨low[i], by rw [List.length_take]; omega, by rw [List.getElem_take]⟩))
    · exact h3
theorem low_is {l : List Bond} {low : List Nat} (hw : Lw l low) (hx : Fix l l low) {i k : Nat} (hi : i < (refsS l).length) (hk : k < (refsS l).length) (hil : i < low.length) (hkl : k < low.length) (e : low[i] = i) : low[k] = i ↔ rhoS l (refsS l)[k] = rhoS l (refsS l)[i] := by
  have gd : ∀ k (hk : k < low.length), low.getD k 0 = low[k] := fun k hk => by rw [List.getD_eq_getElem?_getD, List.getElem?_eq_getElem hk]; rfl
  constructor
  · intro h
    have := hw.same k hkl hk (by omega)
    simp only [h] at this
    exact this.symm
  · intro h
    have := hx.all hk hi h
    rw [gd k hkl, gd i hil, e] at this
    exact this
/-- The components up to a place. -/
def outS (l : List Bond) (i : Nat) : List (List Couple) := (firstsS (rhoS l) ((refsS l).take i)).map fun q => (refsS l).filter fun r => decide (rhoS l r = rhoS l q)
theorem outS_all (l : List Bond) : outS l (refsS l).length = partsS l := by unfold outS; rw [List.take_length]; rfl
theorem outS_zero (l : List Bond) : outS l 0 = [] := by unfold outS; simp [firstsS]
theorem outS_len (l : List Bond) (i : Nat) : (outS l i).length ≤ (refsS l).length := by
  unfold outS
  rw [List.length_map]
  exact Nat.le_trans (firsts_sub _ _).length_le (by rw [List.length_take]; omega)
theorem outS_step {l : List Bond} {low : List Nat} (hw : Lw l low) (hx : Fix l l low) {i : Nat} (hi : i < (refsS l).length) (hil : i < low.length) :
    outS l (i + 1) = if low[i] = i then outS l i ++ [(refsS l).filter fun r => decide (rhoS l r = rhoS l (refsS l)[i])] else outS l i := by
  unfold outS
  rw [List.take_succ_eq_append_getElem hi, firstsS_snoc]
  by_cases h : low[i] = i
  · rw [if_pos h, if_neg]
    · simp
    · intro ha
      obtain ⟨q, hq, e⟩ := firsts_any.1 ha
      exact (low_first hw hx hi hil).1 h q hq e
  · rw [if_neg h, if_pos]
    apply Classical.byContradiction
    intro hn
    exact h ((low_first hw hx hi hil).2 fun q hq e => hn (firsts_any.2 ⟨q, hq, e⟩))
theorem filter_take {α : Type} (p : α → Bool) {l : List α} {k : Nat} (h : k < l.length) : (l.take (k + 1)).filter p = if p l[k] = true then (l.take k).filter p ++ [l[k]] else (l.take k).filter p := by
  rw [List.take_succ_eq_append_getElem h, List.filter_append]
  by_cases e : p l[k] = true <;> simp [e]
end Go.K
