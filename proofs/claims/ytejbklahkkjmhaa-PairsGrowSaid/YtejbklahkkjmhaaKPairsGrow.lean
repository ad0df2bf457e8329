/- What every mask leads to. -/
import Derived.Test.YtejbklahkkjmhaaK9
import Derived.Test.YtejbklahkkjmhaaKPairsInc
set_option linter.unusedVariables false
set_option linter.unusedSimpArgs false
namespace Go.K

/-- The counters. -/
def evO (z : Nat) (tk : Agr) : List Int := (List.range z).map fun m => ((tk.filter (hits m)).length : Int)
def evI (z : Nat) (tk : Agr) (q : Couple × Nat) (j : Nat) : List Int := (List.range z).map fun m => ((tk.filter (hits m)).length : Int) + if m < j ∧ hits m q = true then 1 else 0
theorem evO_nil (z : Nat) : evO z [] = List.replicate z 0 := by
  apply List.ext_getElem
  · simp [evO]
  · intro i h1 h2; simp [evO]
theorem evO_len (z : Nat) (tk : Agr) : (evO z tk).length = z := by simp [evO]
theorem evI_len (z : Nat) (tk : Agr) (q : Couple × Nat) (j : Nat) : (evI z tk q j).length = z := by simp [evI]
theorem evI_zero (z : Nat) (tk : Agr) (q : Couple × Nat) : evI z tk q 0 = evO z tk := by
  unfold evI evO; apply List.map_congr_left; intro m _; simp
theorem evI_all (z : Nat) (tk : Agr) (q : Couple × Nat) : evI z tk q z = evO z (tk ++ [q]) := by
  unfold evI evO; apply List.map_congr_left; intro m hm
  have hm' : m < z := List.mem_range.1 hm
  rw [List.filter_append, List.length_append]
  by_cases h : hits m q = true
  · simp [h, hm']
  · simp [h]
theorem evI_get (z : Nat) (tk : Agr) (q : Couple × Nat) (j i : Nat) (h : i < (evI z tk q j).length) : (evI z tk q j)[i] = ((tk.filter (hits i)).length : Int) + if i < j ∧ hits i q = true then 1 else 0 := by
  simp [evI]
theorem evI_no {z : Nat} {tk : Agr} {q : Couple × Nat} {j : Nat} (h : hits j q = false) : evI z tk q (j + 1) = evI z tk q j := by
  unfold evI; apply List.map_congr_left; intro m _
  by_cases hm : m = j
  · subst hm; simp [h]
  · have : m < j + 1 ↔ m < j := by omega
    simp [this]
theorem evI_yes {z : Nat} {tk : Agr} {q : Couple × Nat} {j : Nat} (hj : j < z) (h : hits j q = true) : evI z tk q (j + 1) = (evI z tk q j).set j ((evI z tk q j)[j]'(by rw [evI_len]; exact hj) + 1) := by
  apply List.ext_getElem
  · simp [evI_len]
  · intro i h1 h2
    rw [List.getElem_set, evI_get]
    by_cases e : j = i
    · subst e
      rw [if_pos rfl, evI_get]; simp [h]
    · rw [if_neg e, evI_get]
      have : i < j + 1 ↔ i < j := by omega
      simp [this]
theorem evO_perm {z : Nat} {tk m : Agr} (h : (tk ++ []).Perm m) : evO z tk = evO z m := by
  rw [List.append_nil] at h
  unfold evO; apply List.map_congr_left; intro k _
  rw [(h.filter _).length_eq]
theorem evO_get (z : Nat) (tk : Agr) (i : Nat) (h : i < (evO z tk).length) : (evO z tk)[i] = ((tk.filter (hits i)).length : Int) := by simp [evO]

/-! ### The law -/
theorem and_or_bits (p m : Nat) (b : Nat) (h : p &&& m ≠ 0) : p &&& (m ||| b) ≠ 0 := fun e => h (by
  apply Nat.eq_of_testBit_eq
  intro i
  have := congrArg (fun n => n.testBit i) e
  simp only [Nat.testBit_and, Nat.testBit_or, Nat.zero_testBit] at this ⊢
  cases hp : p.testBit i <;> cases hm : m.testBit i <;> simp_all)
theorem and_or_all (p m : Nat) (b : Nat) (h : p &&& (m ||| b) = m ||| b) : p &&& m = m := by
  apply Nat.eq_of_testBit_eq
  intro i
  have := congrArg (fun n => n.testBit i) h
  simp only [Nat.testBit_and, Nat.testBit_or] at this ⊢
  cases hp : p.testBit i <;> cases hm : m.testBit i <;> simp_all
theorem filter_len_mono {γ : Type} {p q : γ → Bool} (h : ∀ x, p x = true → q x = true) : ∀ l : List γ, (l.filter p).length ≤ (l.filter q).length
  | [] => by simp
  | x :: l => by
    have ih := filter_len_mono h l
    simp only [List.filter_cons]
    by_cases hp : p x = true
    · rw [if_pos hp, if_pos (h x hp)]; simp only [List.length_cons]; omega
    · rw [if_neg hp]; split
      · simp only [List.length_cons]; omega
      · exact ih
theorem hits_grow (l : Agr) (m b : Nat) : (l.filter (hits m)).length ≤ (l.filter (hits (m ||| b))).length :=
  filter_len_mono (fun x hx => by simp only [hits, decide_eq_true_eq] at hx ⊢; exact and_or_bits _ _ _ hx) l
theorem alls_grow (l : Agr) (m b : Nat) : (l.filter (alls (m ||| b))).length ≤ (l.filter (alls m)).length :=
  filter_len_mono (fun x hx => by simp only [alls, decide_eq_true_eq] at hx ⊢; exact and_or_all _ _ _ hx) l
theorem alls_hits (l : Agr) {m : Nat} (hm : m ≠ 0) : (l.filter (alls m)).length ≤ (l.filter (hits m)).length :=
  filter_len_mono (fun x hx => by simp only [alls, hits, decide_eq_true_eq] at hx ⊢; rw [hx]; exact hm) l
theorem hits_zero (l : Agr) : (l.filter (hits 0)).length = 0 := by
  rw [List.filter_eq_nil_iff.2 (fun x _ => by simp [hits])]; rfl
end Go.K
