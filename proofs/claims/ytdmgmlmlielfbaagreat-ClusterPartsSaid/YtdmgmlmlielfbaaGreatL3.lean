/- The laws of persons: apart, best, large, scaled. Plain. -/
import Derived.Test.YtdmgmlmlielfbaaGreatL2
import Derived.Test.YtdmgmlmlielfbaaGreatL1
import Derived.WalkKit
import Derived.ProofKit
import Derived.OpenShut
import Derived.ChangeSlices
import Derived.Below
import Derived.Carry
import Derived.Deep.Slices
import Derived.WideShapes
import Derived.ChangeArms
set_option linter.unusedVariables false
set_option linter.unusedSimpArgs false
namespace Go.K
open Rep
section
variable {l l' : List Bond} {ds ds' : List Dcs} {ps zs us : List (List Couple)}
theorem barB_le (h : ∀ a b, apB ds a b = true → apB ds' a b = true) {a b : Couple} (hb : barB ds' a b = false) : barB ds a b = false := by
  unfold barB at *
  simp only [Bool.or_eq_false_iff] at *
  refine ⟨⟨hb.1.1, ?_⟩, ?_⟩
  · rw [Bool.eq_false_iff]; intro e; rw [h _ _ e] at hb; exact absurd hb.1.2 (by decide)
  · rw [Bool.eq_false_iff]; intro e; rw [h _ _ e] at hb; exact absurd hb.2 (by decide)
theorem PV.more (h : ∀ x ∈ l, x ∈ l') (hP : PV l ds ps) : PV l' ds ps :=
  ⟨hP.asc, hP.len, hP.bar, fun p hp => joined_mono h (hP.join p hp), hP.disj, hP.heads⟩
theorem PV.free (h : ∀ a b, apB ds a b = true → apB ds' a b = true) (hP : PV l ds' ps) : PV l ds ps :=
  ⟨hP.asc, hP.len, fun p hp => (hP.bar p hp).imp fun h1 => barB_le h h1, hP.join, hP.disj, hP.heads⟩
/-! ### Set apart -/
/-! ### Other weights -/
/-- Sorting what is mapped. -/
theorem StS.map {α β : Type} {c : α → α → Int} {c' : β → β → Int} {f : α → β} (hc : ∀ x y, (c' (f x) (f y) < 0 ↔ c x y < 0) ∧ (c' (f x) (f y) = 0 ↔ c x y = 0)) {ys zs : List α} (h : StS c ys zs) : StS c' (ys.map f) (zs.map f) := by
  obtain ⟨σ, h1, h2, h3⟩ := h
  refine ⟨σ, ⟨by rw [List.length_map, List.length_map, h1.len], fun i hi => ?_⟩, by rw [List.length_map]; exact h2, fun i j a b d => ?_⟩
  · rw [List.length_map] at hi
    have := h1.at_ i hi
    exact ⟨by rw [List.length_map]; exact this.1, by rw [List.getElem?_map, List.getElem?_map, this.2]⟩
  · rw [List.length_map] at d
    obtain ⟨e1, e2, e3⟩ := h3 i j a b d
    refine ⟨by rw [List.length_map]; exact e1, by rw [List.length_map]; exact e2, ?_⟩
    rw [List.getElem_map, List.getElem_map, (hc _ _).1, (hc _ _).2]
    exact e3
/-! ### One component alone -/
end
end Go.K

/- The bonds of a chain, and decisions that a deck deals. Plain. -/
set_option linter.unusedVariables false
set_option linter.unusedSimpArgs false
namespace Go.K
open Rep
/-! ### A chain -/
def okLg (p : Nat) (x : Bond) : Prop := x.A.a = 0 ∧ 1 ≤ x.A.b ∧ x.A.b < p ∧ x.B.a = 1 ∧ (x.B.b = x.A.b ∨ x.B.b = x.A.b + 1) ∧ 1 ≤ x.w ∧ x.w ≤ 9
structure Lg (p : Nat) (l : List Bond) : Prop where
  ok : ∀ x ∈ l, okLg p x
  asc : l.Pairwise lt2
  len : l.length = 2 * (p - 1)
  e1 : ∀ i : Nat, 1 ≤ i → i < p → ∃ w, (⟨⟨0, i⟩, ⟨1, i⟩, w⟩ : Bond) ∈ l
  e2 : ∀ i : Nat, 1 ≤ i → i < p → ∃ w, (⟨⟨0, i⟩, ⟨1, i + 1⟩, w⟩ : Bond) ∈ l
theorem Lg.start : Lg 1 [] := ⟨by simp, List.Pairwise.nil, rfl, fun i h1 h2 => by omega, fun i h1 h2 => by omega⟩
theorem Lg.push {p : Nat} {l : List Bond} {q1 q2 : Nat} (h : Lg p l) (hp : 1 ≤ p) (h1 : (q1 : Int) < 9) (h2 : (q2 : Int) < 9) : Lg (p + 1) (l ++ [⟨⟨0, p⟩, ⟨1, p⟩, 1 + q1⟩, ⟨⟨0, p⟩, ⟨1, p + 1⟩, 1 + q2⟩]) := by
  refine ⟨fun x hx => ?_, ?_, ?_, fun i h3 h4 => ?_, fun i h3 h4 => ?_⟩
  · rcases List.mem_append.1 hx with hx | hx
    · have := h.ok x hx; unfold okLg at *; omega
    · simp only [List.mem_cons, List.not_mem_nil, or_false] at hx
      rcases hx with rfl | rfl
      · exact ⟨rfl, by show (1 : Int) ≤ p; omega, by show (p : Int) < (p + 1 : Nat); omega, rfl, .inl rfl, by show (1 : Int) ≤ 1 + q1; omega, by show (1 : Int) + q1 ≤ 9; omega⟩
      · exact ⟨rfl, by show (1 : Int) ≤ p; omega, by show (p : Int) < (p + 1 : Nat); omega, rfl, .inr rfl, by show (1 : Int) ≤ 1 + q2; omega, by show (1 : Int) + q2 ≤ 9; omega⟩
  · rw [List.pairwise_append]
    refine ⟨h.asc, ?_, fun x hx y hy => ?_⟩
    · rw [List.pairwise_cons]
      refine ⟨fun y hy => ?_, List.pairwise_singleton _ _⟩
      simp only [List.mem_singleton] at hy; subst hy
      exact .inr ⟨rfl, .inr ⟨rfl, by show (p : Int) < p + 1; omega⟩⟩
    · have h3 := h.ok x hx
      unfold okLg at h3
      simp only [List.mem_cons, List.not_mem_nil, or_false] at hy
      rcases hy with rfl | rfl
      · exact .inl (.inr ⟨h3.1, h3.2.2.1⟩)
      · exact .inl (.inr ⟨h3.1, h3.2.2.1⟩)
  · rw [List.length_append, h.len]; simp only [List.length_cons, List.length_nil]; omega
  · by_cases e : i = p
    · subst e; exact ⟨1 + q1, by simp⟩
    · obtain ⟨w, hw⟩ := h.e1 i h3 (by omega); exact ⟨w, List.mem_append.2 (.inl hw)⟩
  · by_cases e : i = p
    · subst e; exact ⟨1 + q2, by simp⟩
    · obtain ⟨w, hw⟩ := h.e2 i h3 (by omega); exact ⟨w, List.mem_append.2 (.inl hw)⟩
section
variable {p : Nat} {l : List Bond}
theorem Lg.vld (h : Lg p l) (hp : p ≤ 8) : Vld l := by
  refine ⟨by rw [h.len]; omega, fun x hx => ?_, h.asc⟩
  have h1 := h.ok x hx
  unfold okLg at h1
  refine ⟨?_, by omega, by omega⟩
  unfold cplOK refOK
  simp only [Bool.and_eq_true, decide_eq_true_eq]
  omega
theorem Lg.many (h : Lg p l) (hp : 6 ≤ p) : 8 < (refsS l).length := by
  have hr : ∀ i : Nat, 1 ≤ i → i < 6 → (⟨0, i⟩ : Couple) ∈ refsS l ∧ (⟨1, i⟩ : Couple) ∈ refsS l := fun i h1 h2 => by
    obtain ⟨w, hw⟩ := h.e1 i h1 (by omega)
    exact ⟨mem_refsS.2 ⟨_, hw, .inl rfl⟩, mem_refsS.2 ⟨_, hw, .inr rfl⟩⟩
  have hn : ([⟨0, 1⟩, ⟨0, 2⟩, ⟨0, 3⟩, ⟨0, 4⟩, ⟨0, 5⟩, ⟨1, 1⟩, ⟨1, 2⟩, ⟨1, 3⟩, ⟨1, 4⟩, ⟨1, 5⟩] : List Couple).Nodup := by decide
  have := hn.length_le_of_subset (l₂ := refsS l) fun r hr2 => by
    simp only [List.mem_cons, List.not_mem_nil, or_false] at hr2
    rcases hr2 with rfl | rfl | rfl | rfl | rfl | rfl | rfl | rfl | rfl | rfl
    · exact (hr 1 (by omega) (by omega)).1
    · exact (hr 2 (by omega) (by omega)).1
    · exact (hr 3 (by omega) (by omega)).1
    · exact (hr 4 (by omega) (by omega)).1
    · exact (hr 5 (by omega) (by omega)).1
    · exact (hr 1 (by omega) (by omega)).2
    · exact (hr 2 (by omega) (by omega)).2
    · exact (hr 3 (by omega) (by omega)).2
    · exact (hr 4 (by omega) (by omega)).2
    · exact (hr 5 (by omega) (by omega)).2
  simp only [List.length_cons, List.length_nil] at this
  omega
/-- A list of refs within bounds is short. -/
theorem refs_few {R I : Nat} {s : List Couple} (hn : s.Nodup) (h : ∀ r ∈ s, 0 ≤ r.a ∧ r.a < R ∧ 1 ≤ r.b ∧ r.b ≤ I) : s.length ≤ R * I := by
  have := hn.length_le_of_subset (l₂ := (List.range R).flatMap fun a : Nat => (List.range I).map fun b : Nat => (⟨(a : Int), (b : Int) + 1⟩ : Couple)) fun r hr => by
    have h1 := h r hr
    obtain ⟨a, b⟩ := r
    simp only at h1
    refine List.mem_flatMap.2 ⟨a.toNat, List.mem_range.2 (by omega), List.mem_map.2 ⟨(b - 1).toNat, List.mem_range.2 (by omega), ?_⟩⟩
    rw [Int.toNat_of_nonneg (by omega), Int.toNat_of_nonneg (by omega)]
    congr 1; omega
  refine Nat.le_trans this (Nat.le_of_eq ?_)
  rw [List.length_flatMap]
  simp only [List.length_map, List.length_range]
  have key : ∀ L : List Nat, (L.map fun _ => I).sum = L.length * I := by
    intro L
    induction L with
    | nil => simp
    | cons a t ih => rw [List.map_cons, List.sum_cons, ih, List.length_cons, Nat.succ_mul, Nat.add_comm]
  rw [key, List.length_range]
theorem Lg.few (h : Lg p l) (hp : p ≤ 8) : (refsS l).length ≤ 16 := by
  have := refs_few (R := 2) (I := 8) (refsS_nodup l) fun r hr => by
    obtain ⟨x, hx, e⟩ := mem_refsS.1 hr
    have h1 := h.ok x hx
    unfold okLg at h1
    rcases e with rfl | rfl <;> omega
  omega
theorem Dlt.few {R I : Nat} (h : Dlt R I l) : (refsS l).length ≤ R * I := refs_few (refsS_nodup l) fun r hr => by
  obtain ⟨x, hx, e⟩ := mem_refsS.1 hr
  have h1 := h.1 x hx
  unfold okR at h1
  rcases e with rfl | rfl <;> omega
end
/-! ### Decisions that a deck deals -/
def okDc (R I : Nat) (x : Dcs) : Prop := 0 ≤ x.A.a ∧ x.A.a < x.B.a ∧ x.B.a < R ∧ 1 ≤ x.A.b ∧ x.A.b ≤ I ∧ 1 ≤ x.B.b ∧ x.B.b ≤ I ∧ 1 ≤ x.va ∧ x.va ≤ 2 ∧ 1 ≤ x.vb ∧ x.vb ≤ 4
def CurD (r i s k : Nat) (x : Dcs) : Prop := x.A.a < r ∨ x.A.a = r ∧ (x.A.b < i ∨ x.A.b = i ∧ (x.B.a < s ∨ x.B.a = s ∧ x.B.b < k))
def Dd (R I r i s k : Nat) (l : List Dcs) : Prop := (∀ x ∈ l, okDc R I x ∧ CurD r i s k x) ∧ l.Pairwise ltD
structure Dds (R I : Nat) (l : List Dcs) : Prop where
  ok : ∀ i (h : i < l.length), dcsOK l[i]
  asc : ∀ i (h : i + 1 < l.length), cmpD l[i] l[i + 1] < 0
  len : l.length ≤ 4096
theorem Dd.nil (R I r i s k : Nat) : Dd R I r i s k [] := ⟨fun x h => by simp at h, List.Pairwise.nil⟩
theorem Dd.to {R I r i s k r' i' s' k' : Nat} {l : List Dcs} (h : Dd R I r i s k l) (hc : ∀ x, okDc R I x → CurD r i s k x → CurD r' i' s' k' x) : Dd R I r' i' s' k' l :=
  ⟨fun x hx => ⟨(h.1 x hx).1, hc x (h.1 x hx).1 (h.1 x hx).2⟩, h.2⟩
theorem Dd.len {R I r i s k : Nat} {l : List Dcs} (h : Dd R I r i s k l) (hR : R ≤ 4) (hI : I ≤ 4) : l.length ≤ 2048 := by
  have hb : ∀ x ∈ l, okDc R I x := fun x hx => (h.1 x hx).1
  have := asc_len (fun x : Dcs => (x.A.a * 512 + (x.A.b - 1) * 128 + x.B.a * 32 + (x.B.b - 1) * 8 + (x.va - 1) * 4 + (x.vb - 1)).toNat) 2048 l 0 (h.2.imp_of_mem fun {x y} hx hy hxy => by
    have h1 := hb x hx; have h2 := hb y hy
    unfold okDc at h1 h2
    unfold ltD at hxy
    show (x.A.a * 512 + (x.A.b - 1) * 128 + x.B.a * 32 + (x.B.b - 1) * 8 + (x.va - 1) * 4 + (x.vb - 1)).toNat < (y.A.a * 512 + (y.A.b - 1) * 128 + y.B.a * 32 + (y.B.b - 1) * 8 + (y.va - 1) * 4 + (y.vb - 1)).toNat
    omega) (fun x hx => by
    have h1 := hb x hx
    unfold okDc at h1
    show 0 ≤ _ ∧ (x.A.a * 512 + (x.A.b - 1) * 128 + x.B.a * 32 + (x.B.b - 1) * 8 + (x.va - 1) * 4 + (x.vb - 1)).toNat < 2048
    omega)
  simpa using this
theorem Dd.push {R I r i s k : Nat} {l : List Dcs} {x : Dcs} (h : Dd R I r i s k l) (hx : okDc R I x) (h1 : x.A.a = r ∧ x.A.b = i ∧ x.B.a = s ∧ x.B.b = k) : Dd R I r i s (k + 1) (l ++ [x]) := by
  refine ⟨fun y hy => ?_, ?_⟩
  · rcases List.mem_append.1 hy with hy | hy
    · obtain ⟨h3, h4⟩ := h.1 y hy
      refine ⟨h3, ?_⟩
      unfold CurD at *; omega
    · simp only [List.mem_singleton] at hy; subst hy
      exact ⟨hx, by unfold CurD; omega⟩
  · rw [List.pairwise_append]
    refine ⟨h.2, by simp, fun y hy z hz => ?_⟩
    simp only [List.mem_singleton] at hz; subst hz
    obtain ⟨h3, h4⟩ := h.1 y hy
    unfold CurD at h4; unfold ltD
    omega
theorem Dd.push2 {R I r i s k : Nat} {l : List Dcs} {x y : Dcs} (h : Dd R I r i s k l) (hx : okDc R I x) (hy : okDc R I y) (h1 : x.A.a = r ∧ x.A.b = i ∧ x.B.a = s ∧ x.B.b = k) (h2 : y.A = x.A ∧ y.B = x.B ∧ y.va = x.va ∧ x.vb < y.vb) : Dd R I r i s (k + 1) (l ++ [x] ++ [y]) := by
  have h3 := h.push hx h1
  obtain ⟨h2a, h2b, h2c, h2d⟩ := h2
  refine ⟨fun z hz => ?_, ?_⟩
  · rcases List.mem_append.1 hz with hz | hz
    · exact h3.1 z hz
    · simp only [List.mem_singleton] at hz; subst hz
      exact ⟨hy, by unfold CurD; rw [h2a, h2b]; omega⟩
  · rw [List.pairwise_append]
    refine ⟨h3.2, by simp, fun u hu z hz => ?_⟩
    simp only [List.mem_singleton] at hz; subst hz
    unfold ltD
    rw [h2a, h2b]
    rcases List.mem_append.1 hu with hu | hu
    · have h4 := (List.pairwise_append.1 h3.2).2.2 u hu x (by simp)
      unfold ltD at h4
      obtain ⟨h5, h6⟩ := h.1 u hu
      unfold CurD at h6
      omega
    · simp only [List.mem_singleton] at hu; subst hu
      omega
theorem Dd.fin {R I r i s k : Nat} {l : List Dcs} (h : Dd R I r i s k l) (hR : R ≤ 4) (hI : I ≤ 4) : Dds R I l := by
  refine ⟨fun i hi => ?_, fun i hi => ?_, by have := h.len hR hI; omega⟩
  · have h1 := (h.1 _ (List.getElem_mem hi)).1
    unfold okDc at h1
    unfold dcsOK cplOK refOK verOK
    simp only [Bool.and_eq_true, decide_eq_true_eq]
    omega
  · exact cmpD_all.1.2 (List.pairwise_iff_getElem.1 h.2 i (i + 1) (by omega) hi (by omega))
end Go.K

/- Further laws of persons: parts by themselves, the exact way within limits. Plain. -/
set_option linter.unusedVariables false
set_option linter.unusedSimpArgs false
namespace Go.K
open Rep
section
variable {l l' : List Bond} {ds : List Dcs} {zs us ps : List (List Couple)}
/-! ### A part by itself -/
theorem part_conn {i : Nat} (h : i < (splitS l).length) : ∀ a ∈ refsS (splitS l)[i], ∀ b ∈ refsS (splitS l)[i], rhoS (splitS l)[i] a = rhoS (splitS l)[i] b := fun a ha b hb => by
  have key := fun r => rho_inv (p := fun r => if r ∈ refsS (splitS l)[i] then some (rhoS (splitS l)[i] r) else none) (l := l) (fun x hx => by
    by_cases hp : x ∈ (splitS l)[i]
    · rw [if_pos (mem_refsS.2 ⟨x, hp, .inl rfl⟩), if_pos (mem_refsS.2 ⟨x, hp, .inr rfl⟩), rho_edge hp]
    · rw [if_neg (fun hm => hp ((split_bond h).2 ⟨hx, ((split_mem h).1 hm).2⟩)), if_neg (fun hm => hp ((split_bond h).2 ⟨hx, by rw [rho_edge hx]; exact ((split_mem h).1 hm).2⟩))]) r
  have e : rhoS l a = rhoS l b := ((split_mem h).1 ha).2.trans ((split_mem h).1 hb).2.symm
  have h1 := key a; have h2 := key b
  rw [e] at h1
  have h3 := h1.symm.trans h2
  rw [if_pos ha, if_pos hb] at h3
  exact Option.some.inj h3
theorem split_one (hne : l ≠ []) (hc : ∀ a ∈ refsS l, ∀ b ∈ refsS l, rhoS l a = rhoS l b) : splitS l = [l] := by
  obtain ⟨x, hx⟩ : ∃ x, x ∈ l := List.exists_mem_of_ne_nil _ hne
  have hr : x.A ∈ refsS l := mem_refsS.2 ⟨x, hx, .inl rfl⟩
  obtain ⟨q, hq, _⟩ := firsts_cover (f := rhoS l) hr
  have hn := firsts_nodup (rhoS l) (refsS l)
  have hs := (firsts_sub (rhoS l) (refsS l)).subset
  have hf : firstsS (rhoS l) (refsS l) = [q] := by
    generalize firstsS (rhoS l) (refsS l) = fs at *
    match fs, hq, hn, hs with
    | [a], hq, _, _ => rw [List.mem_singleton.1 hq]
    | a :: b :: t, _, hn, hs =>
      have := hc a (hs (by simp)) b (hs (by simp))
      simp [this] at hn
  unfold splitS
  rw [hf, List.map_cons, List.map_nil]
  congr 1
  refine List.filter_eq_self.2 fun y hy => decide_eq_true ?_
  exact hc _ (mem_refsS.2 ⟨y, hy, .inl rfl⟩) _ (hs (by rw [hf]; simp))
theorem split_part {i : Nat} (h : i < (splitS l).length) : splitS (splitS l)[i] = [(splitS l)[i]] := split_one (split_some h) (part_conn h)
theorem part_sol {i : Nat} (h : i < (splitS l).length) (hS : StS cmpH (allW (wayS ds) (splitS l)) zs) (hP : StS cmpH (allW (wayS ds) (splitS (splitS l)[i])) us) :
    valueB (splitS l)[i] us = valueB (splitS l)[i] zs ∧ us.length = (wayS ds (splitS l)[i]).1.length ∧ ∀ y ∈ us, y ∈ zs ∧ 2 ≤ y.length := by
  have h2 := sol_PV (fun i hi => wayS_PV ds _) hS
  have h3 := sol_PV (fun i hi => wayS_PV ds _) hP
  have e := split_part h
  have l0 : 0 < (splitS (splitS l)[i]).length := by rw [e]; simp
  have e0 : (splitS (splitS l)[i])[0]'l0 = (splitS l)[i] := by simp [e]
  have h4 := h3.2 0 l0
  rw [e0] at h4
  have e1 : allW (wayS ds) (splitS (splitS l)[i]) = (wayS ds (splitS l)[i]).1 := by rw [e]; simp [allW]
  refine ⟨h4.trans (h2.2 i h).symm, by rw [hP.len, e1], fun y hy => ⟨?_, h3.1.len y hy⟩⟩
  have hm := hP.perm.mem_iff.1 hy
  rw [e1] at hm
  exact hS.perm.mem_iff.2 (List.mem_flatMap.2 ⟨_, List.getElem_mem h, hm⟩)
/-- Where a ref of a person is found, the person stands. -/
theorem find_at (hP : PV l ds zs) {y : List Couple} (hy : y ∈ zs) {c : Couple} (hc : c ∈ y) : ∃ k, ∃ hk : k < zs.length, findS zs c = (k : Int) ∧ zs[k] = y := by
  obtain ⟨j, hj, rfl⟩ := List.getElem_of_mem hy
  refine ⟨j, hj, ?_, rfl⟩
  unfold findS
  refine idxOf_at hj (fun i hi => Bool.eq_false_iff.2 fun hp => ?_) ?_
  · obtain ⟨c', hc', e⟩ := List.any_eq_true.1 hp
    have e := of_decide_eq_true e
    subst e
    have hd := flat_apart hP.disj
    exact List.pairwise_iff_getElem.1 hd i j (by omega) hj hi _ hc' hc
  · exact List.any_eq_true.2 ⟨c, hc, decide_eq_true rfl⟩
theorem sum_take {k : Nat} (h : k < (splitS l).length) (zs : List (List Couple)) : (((splitS l).take (k + 1)).map fun p => valueB p zs).sum = (((splitS l).take k).map fun p => valueB p zs).sum + valueB (splitS l)[k] zs := by
  rw [List.take_succ_eq_append_getElem h, List.map_append, List.sum_append_int]; simp
theorem sum_b (hv : Vld l) (zs : List (List Couple)) : ∀ k, k ≤ (splitS l).length → 0 ≤ (((splitS l).take k).map fun p => valueB p zs).sum ∧ (((splitS l).take k).map fun p => valueB p zs).sum ≤ 4294967296 * (k : Int)
  | 0, _ => by simp
  | k + 1, h => by
    have h1 := sum_b hv zs k (by omega)
    have hw := split_vld hv (show k < (splitS l).length by omega)
    have h2 := valueB_b (l := (splitS l)[k]) (fun x hx => (hw.2.1 x hx).2) zs _ (Nat.le_refl _)
    rw [valueB_all] at h2
    rw [sum_take (by omega)]
    have := hw.1
    omega
/-! ### All weights times a number, in place -/
end
end Go.K

/- From the row's reading of an argument to what the steps ask. -/
set_option linter.unusedVariables false
namespace Go.K
open Rep
/-- Nobody writes anything that stood at the start. -/
def Cn0 : Nat → Nat := fun _ => 0
theorem lim0 (w : World) : Lim w Cn0 := fun b h => absurd rfl h
theorem Stp.below {w w' : World} (h : Stp [] w Cn0 w' Cn0) : Go.RowKit.Below w.heap.size w w' := h.ext.below (Nat.le_refl _) (fun b hb => by simp at hb)

end Go.K

/- From the row's reading of an argument, of whatever make, to what the steps ask. -/
set_option linter.unusedVariables false
set_option linter.unusedSimpArgs false
namespace Go.K
open Rep

/-- Whatever the row reads at this type reads as a Lean value. -/
def Opens {H : Type} (enc : TypeId × Value → H) (P : Program) (w : World) (base : Nat) (spare : Nat → Bool) (held : Bool) (α : Type) [Rep α] (t : TypeId) : Prop :=
  P.cellsOf t = sz α ∧ ∀ (fuel : Nat) (cs : List Value) (x : DataW H × List MemPlace), DataW.trod enc P w base spare held fuel t cs = some x → ∃ a : α, rep w.heap (Mc Cn0) a cs

section
variable {H : Type} {enc : TypeId × Value → H} {P : Program} {w : World} {base : Nat} {spare : Nat → Bool} {held : Bool} {α β γ : Type} [Rep α] [Rep β] [Rep γ] {t e : TypeId}

theorem opens_int (ht : P.underlying t = some (.int .i64)) (hc : P.cellsOf t = 1) : Opens enc P w base spare held Int t := ⟨hc, fun fuel cs x h => by
  obtain ⟨n, rfl, _⟩ := DataW.trod_int ht h
  exact ⟨n, rfl⟩⟩
theorem opens_slice (ht : P.underlying t = some (.slice e)) (hc : P.cellsOf t = 1) (hsz : 0 < sz α) (he : Opens enc P w base spare held α e) : Opens enc P w base spare held (List α) t := ⟨hc, fun fuel cs x h => by
  rcases Go.Deep.open_slice ht h with ⟨rfl, _⟩ | ⟨a, len, cap, m, n, D, Pl, rfl, hb, hl, hm, hmm, hx, hcell⟩
  · exact ⟨[], none, 0, rfl, Nat.le_refl _, by simp, .inl rfl⟩
  · have hlm : len ≤ m := by rw [hmm]; split <;> omega
    have key : ∀ k, k ≤ len → ∃ xs : List α, xs.length = k ∧ ∀ i (hi : i < xs.length), ∃ cs', w.cells? base (a.add (i * sz α)) (sz α) = some cs' ∧ rep w.heap (Mc Cn0) xs[i] cs' := by
      intro k
      induction k with
      | zero => exact fun _ => ⟨[], rfl, fun i hi => by simp at hi⟩
      | succ k ih =>
        intro hk
        obtain ⟨xs, hxl, hxs⟩ := ih (by omega)
        obtain ⟨cs', h1, h2⟩ := hcell k (by omega)
        obtain ⟨y, hy⟩ := he.2 _ _ _ h2
        rw [he.1] at h1
        refine ⟨xs ++ [y], by simp [hxl], fun i hi => ?_⟩
        by_cases hik : i < xs.length
        · rw [List.getElem_append_left hik]; exact hxs i hik
        · have hik2 : i = k := by simp at hi; omega
          subst hik2
          rw [List.getElem_append_right (by omega)]
          exact ⟨cs', h1, by simpa [hxl] using hy⟩
    obtain ⟨xs, hxl, hxs⟩ := key len (Nat.le_refl _)
    refine ⟨xs, some a, cap, by rw [hxl], by omega, by unfold maxLen at hm; omega, ?_⟩
    by_cases h0 : len = 0
    · left; exact List.length_eq_zero_iff.1 (by omega)
    · right
      have hall : ∀ i (hi : i < xs.length), ∃ cs', cs'.length = sz α ∧ (∀ j (hj : j < cs'.length), w.cell? (a.add (i * sz α + j)) = some cs'[j]) ∧ rep w.heap (Mc Cn0) xs[i] cs' := fun i hi => by
        obtain ⟨cs', h1, h2⟩ := hxs i hi
        obtain ⟨_, h3, h4⟩ := World.cells?_some h1
        refine ⟨cs', h3, fun j hj => ?_, h2⟩
        have h5 := h4 j (by omega)
        rw [Addr.add_add] at h5
        rw [h5]; exact List.getElem?_eq_getElem hj
      obtain ⟨c0, hc0l, hc0, _⟩ := hall 0 (by omega)
      have hfirst := hc0 0 (by omega)
      obtain ⟨b, off, spot⟩ := a
      have hspot : spot = none := by simpa [Addr.add] using World.cell?_spot hfirst
      subst hspot
      refine ⟨b, off, rfl, ?_⟩
      simp only [addr_add] at hall hfirst
      unfold World.cell? at hfirst
      simp only at hfirst
      cases hbk : w.heap[b]? with
      | none => rw [hbk] at hfirst; cases hfirst
      | some ob =>
        cases ob with
        | cells c ty fz =>
          have hget : ∀ i (hi : i < xs.length), ∃ cs', cs'.length = sz α ∧ (∀ j (hj : j < cs'.length), c[off + (i * sz α + j)]? = some cs'[j]) ∧ rep w.heap (Mc Cn0) xs[i] cs' := fun i hi => by
            obtain ⟨cs', h1, h2, h3⟩ := hall i hi
            refine ⟨cs', h1, fun j hj => ?_, h3⟩
            have h4 := h2 j hj
            unfold World.cell? at h4
            simp only [hbk] at h4
            simpa using h4
          refine ⟨fun h => h rfl, c, ty, fz, hbk, ?_, fun i hi => ?_⟩
          · obtain ⟨cs', h1, h2, _⟩ := hget (len - 1) (by omega)
            have h3 := (Array.getElem?_eq_some_iff.1 (h2 (sz α - 1) (by omega))).1
            have h4 : len * sz α = (len - 1) * sz α + sz α := by
              have : len = (len - 1) + 1 := by omega
              rw [this, Nat.succ_mul]; simp
            rw [hxl, h4]; omega
          · obtain ⟨cs', h1, h2, h3⟩ := hget i hi
            have : cellsAt c (off + i * sz α) (sz α) = cs' := by
              apply List.ext_getElem?
              intro r
              simp only [cellsAt, List.getElem?_take, List.getElem?_drop, Array.getElem?_toList]
              by_cases hr : r < sz α
              · rw [if_pos hr, List.getElem?_eq_getElem (by omega), Nat.add_assoc]; exact h2 r (by omega)
              · rw [if_neg hr, List.getElem?_eq_none (by omega)]
            rw [this]; exact h3
        | _ => rw [hbk] at hfirst; cases hfirst⟩

theorem Opens.rv (h : Opens enc P w base spare held α t) (hx : Rep.agg α = false) {fuel : Nat} {v : Value} {x : DataW H × List MemPlace} (ht : DataW.trod enc P w base spare held fuel t [v] = some x) : ∃ a : α, RV w (Mc Cn0) a v := by
  obtain ⟨a, ha⟩ := h.2 _ _ _ ht
  exact ⟨a, rep1_rv ha hx⟩
end
end Go.K
