/- What the ways make is valid. Plain. -/
import Derived.Test.YtdmgmlmlielfbaaGreatL2
import Derived.Test.YtdmgmlmlielfbaaGreatL1
import Derived.WalkKit
import Derived.ProofKit
import Derived.OpenShut
import Derived.ChangeSlices
import Derived.Below
import Derived.Carry
import Derived.Deep.Slices
import Derived.WideShapes
import Derived.ChangeArms
set_option linter.unusedVariables false
set_option linter.unusedSimpArgs false
namespace Go.K
open Rep
section
variable {l : List Bond} {ds : List Dcs} {wf : List Bond → List (List Couple) × Int} {zs : List (List Couple)}
theorem list_range {α : Type} (d : α) (ps : List α) : ps = (List.range ps.length).map fun i => ps.getD i d := by
  apply List.ext_getElem
  · simp
  · intro i h1 h2
    simp [List.getD_eq_getElem?_getD, h1]
def partOf (wf : List Bond → List (List Couple) × Int) (l : List Bond) (i : Nat) : List (List Couple) := (wf ((splitS l).getD i [])).1
theorem partOf_at {i : Nat} (h : i < (splitS l).length) : partOf wf l i = (wf (splitS l)[i]).1 := by unfold partOf; rw [List.getD_eq_getElem?_getD, List.getElem?_eq_getElem h]; rfl
theorem allW_range : allW wf (splitS l) = (List.range (splitS l).length).flatMap (partOf wf l) := by
  unfold allW
  rw [list_range [] (splitS l), List.flatMap_map]
  simp only [List.length_map, List.length_range]
  congr 1
theorem allW_nodup (hQ : ∀ i (h : i < (splitS l).length), PV (splitS l)[i] ds (wf (splitS l)[i]).1) : (allW wf (splitS l)).flatten.Nodup := by
  rw [allW_range]
  have hQ' : ∀ i (h : i < (splitS l).length), PV (splitS l)[i] ds (partOf wf l i) := fun i h => by rw [partOf_at h]; exact hQ i h
  have key : ∀ k, k ≤ (splitS l).length → ((List.range k).flatMap (partOf wf l)).flatten.Nodup ∧ ∀ r ∈ ((List.range k).flatMap (partOf wf l)).flatten, ∃ i, ∃ h : i < (splitS l).length, i < k ∧ r ∈ refsS (splitS l)[i] := by
    intro k
    induction k with
    | zero => intro _; simp
    | succ k ih =>
      intro hk
      obtain ⟨h1, h2⟩ := ih (by omega)
      have hkl : k < (splitS l).length := by omega
      have e : ((List.range (k + 1)).flatMap (partOf wf l)).flatten = ((List.range k).flatMap (partOf wf l)).flatten ++ (partOf wf l k).flatten := by
        rw [List.range_succ, List.flatMap_append, List.flatten_append]; simp
      have hin : ∀ r ∈ (partOf wf l k).flatten, r ∈ refsS (splitS l)[k] := fun r hr => by
        obtain ⟨p, hp, hr⟩ := List.mem_flatten.1 hr
        exact (hQ' k hkl).refs hp hr
      rw [e]
      refine ⟨List.nodup_append.2 ⟨h1, (hQ' k hkl).disj, fun a ha b hb e2 => ?_⟩, fun r hr => ?_⟩
      · subst e2
        obtain ⟨i, hi, hik, h3⟩ := h2 a ha
        have := split_uniq hi hkl h3 (hin a hb)
        omega
      · rcases List.mem_append.1 hr with h3 | h3
        · obtain ⟨i, hi, hik, h4⟩ := h2 r h3; exact ⟨i, hi, by omega, h4⟩
        · exact ⟨k, hkl, by omega, hin r h3⟩
  exact (key _ (Nat.le_refl _)).1
theorem allW_mem {p : List Couple} (hp : p ∈ allW wf (splitS l)) : ∃ i, ∃ h : i < (splitS l).length, p ∈ (wf (splitS l)[i]).1 := by
  unfold allW at hp
  obtain ⟨q, hq, h2⟩ := List.mem_flatMap.1 hp
  obtain ⟨i, hi, rfl⟩ := List.getElem_of_mem hq
  exact ⟨i, hi, h2⟩
theorem allW_len2 (hQ : ∀ i (h : i < (splitS l).length), PV (splitS l)[i] ds (wf (splitS l)[i]).1) : ∀ p ∈ allW wf (splitS l), 2 ≤ p.length := fun p hp => by
  obtain ⟨i, h, h2⟩ := allW_mem hp
  exact (hQ i h).len p h2
theorem len_flat : ∀ {ps : List (List Couple)}, (∀ p ∈ ps, 2 ≤ p.length) → 2 * ps.length ≤ ps.flatten.length
  | [], _ => by simp
  | p :: ps, h => by
    have h1 := h p List.mem_cons_self
    have h2 := len_flat (ps := ps) (fun q hq => h q (List.mem_cons_of_mem _ hq))
    simp only [List.flatten_cons, List.length_append, List.length_cons]
    omega
theorem allW_few (hQ : ∀ i (h : i < (splitS l).length), PV (splitS l)[i] ds (wf (splitS l)[i]).1) : 2 * (allW wf (splitS l)).length ≤ (refsS l).length := by
  refine Nat.le_trans (len_flat (allW_len2 hQ)) ((allW_nodup hQ).length_le_of_subset fun r hr => ?_)
  obtain ⟨p, hp, hr⟩ := List.mem_flatten.1 hr
  obtain ⟨i, h, h2⟩ := allW_mem hp
  exact ((split_mem h).1 ((hQ i h).refs h2 hr)).1
theorem flat_apart : ∀ {ps : List (List Couple)}, ps.flatten.Nodup → ps.Pairwise fun p q => ∀ x ∈ p, x ∉ q
  | [], _ => List.Pairwise.nil
  | p :: ps, h => by
    rw [List.flatten_cons, List.nodup_append] at h
    exact List.pairwise_cons.2 ⟨fun q hq x hx hx2 => h.2.2 x hx x (List.mem_flatten.2 ⟨q, hq, hx2⟩) rfl, flat_apart h.2.1⟩
theorem heads_sorted (hQ : ∀ i (h : i < (splitS l).length), PV (splitS l)[i] ds (wf (splitS l)[i]).1) (h : StS cmpH (allW wf (splitS l)) zs) : zs.Pairwise fun p q => ltP (p.headD ⟨0, 0⟩) (q.headD ⟨0, 0⟩) := by
  have hn : zs.flatten.Nodup := (h.perm.flatten.nodup_iff).2 (allW_nodup hQ)
  have hd := flat_apart hn
  rw [List.pairwise_iff_getElem] at hd ⊢
  intro i j hi hj hij
  have h1 := h.le hij hj
  have h2 := hd i j hi hj hij
  have l1 := allW_len2 hQ _ (h.perm.mem_iff.1 (List.getElem_mem hi)); have l2 := allW_len2 hQ _ (h.perm.mem_iff.1 (List.getElem_mem hj))
  have hm : ∀ {s : List Couple}, 2 ≤ s.length → s.headD ⟨0, 0⟩ ∈ s := fun {s} h => by cases s with | nil => simp at h | cons a t => simp
  refine cmpC_neg.1 ?_
  unfold cmpH at h1
  rcases Int.lt_or_eq_of_le h1 with h3 | h3
  · exact h3
  · have h4 := (cmpC_3 (x := zs[i].headD ⟨0, 0⟩) (y := zs[j].headD ⟨0, 0⟩)).2.1.1 h3
    have h5 : zs[i].headD ⟨0, 0⟩ = zs[j].headD ⟨0, 0⟩ := by
      generalize zs[i].headD ⟨0, 0⟩ = a at h4; generalize zs[j].headD ⟨0, 0⟩ = b at h4
      obtain ⟨a1, a2⟩ := a; obtain ⟨b1, b2⟩ := b
      obtain ⟨e1, e2⟩ := h4
      simp only at e1 e2
      subst e1 e2; rfl
    exact absurd (h5 ▸ hm l2 : zs[i].headD ⟨0, 0⟩ ∈ zs[j]) (h2 _ (hm l1))
/-- All persons together. -/
theorem sol_PV (hQ : ∀ i (h : i < (splitS l).length), PV (splitS l)[i] ds (wf (splitS l)[i]).1) (h : StS cmpH (allW wf (splitS l)) zs) :
    PV l ds zs ∧ ∀ i (h : i < (splitS l).length), valueB (splitS l)[i] zs = valueB (splitS l)[i] (wf (splitS l)[i]).1 := by
  obtain ⟨h1, h2⟩ := all_PV (Q := partOf wf l) (fun i hi => by rw [partOf_at hi]; exact hQ i hi) (by rw [← allW_range]; exact h.perm) (heads_sorted hQ h)
  exact ⟨h1, fun i hi => by rw [h2 i hi, partOf_at hi]⟩
theorem stS_sub {α : Type} {c : α → α → Int} {ys : List α} : ∀ x ∈ stS c ys, x ∈ ys := fun x hx => by
  unfold stS at hx
  split at hx
  · rename_i h; exact h.choose_spec.sub x hx
  · exact hx
theorem greedyF_PV (l : List Bond) (ds : List Dcs) : PV l ds (greedyF l ds) := greedy_PV l ds stS_sub
theorem PV_nil (l : List Bond) (ds : List Dcs) : PV l ds [] := ⟨by simp, by simp, by simp, by simp, by simp, by simp⟩
theorem wayG_PV (ds : List Dcs) (l : List Bond) : PV l ds (wayG ds l).1 := greedyF_PV l ds
theorem wayS_PV (ds : List Dcs) (l : List Bond) : PV l ds (wayS ds l).1 := by
  unfold wayS; split
  · exact exact_PV l ds
  · exact greedyF_PV l ds
theorem wayX_PV (ds : List Dcs) (l : List Bond) : PV l ds (wayX ds l).1 := by
  unfold wayX; split
  · exact exact_PV l ds
  · exact PV_nil l ds
theorem split_some {i : Nat} (h : i < (splitS l).length) : (splitS l)[i] ≠ [] := fun e => by
  have hq := List.getElem_mem (split_lt h)
  have hr : (firstsS (rhoS l) (refsS l))[i]'(split_lt h) ∈ refsS l := (firsts_sub _ _).subset hq
  have := (split_mem h).2 ⟨hr, rfl⟩
  rw [e] at this
  obtain ⟨x, hx, _⟩ := mem_refsS.1 this
  cases hx
theorem split_short {i : Nat} (h : i < (splitS l).length) : (splitS l)[i].length ≤ l.length := by
  rw [splitS_get]; exact List.length_filter_le _ _
theorem split_refsl {i : Nat} (h : i < (splitS l).length) : (refsS (splitS l)[i]).length ≤ (refsS l).length :=
  (refsS_nodup _).length_le_of_subset fun r hr => ((split_mem h).1 hr).1
end
end Go.K

/- The sanity check's bonds: reckoned. Plain. -/
set_option linter.unusedVariables false
set_option linter.unusedSimpArgs false
set_option maxRecDepth 100000
namespace Go.K
open Rep
def awL : List Bond := [⟨⟨0, 1⟩, ⟨1, 5⟩, 10⟩, ⟨⟨0, 1⟩, ⟨1, 6⟩, 12⟩, ⟨⟨1, 5⟩, ⟨2, 7⟩, 9⟩, ⟨⟨1, 6⟩, ⟨2, 7⟩, 3⟩]
def awO : List Bond := [⟨⟨0, 1⟩, ⟨1, 6⟩, 12⟩, ⟨⟨0, 1⟩, ⟨1, 5⟩, 10⟩, ⟨⟨1, 5⟩, ⟨2, 7⟩, 9⟩, ⟨⟨1, 6⟩, ⟨2, 7⟩, 3⟩]
def awP : List (List Couple) := [[⟨0, 1⟩, ⟨1, 6⟩], [⟨1, 5⟩, ⟨2, 7⟩]]
def awR : List Couple := [⟨0, 1⟩, ⟨1, 5⟩, ⟨1, 6⟩, ⟨2, 7⟩]
theorem pw_ltP {s : List Couple} (h : (s.Pairwise fun a b => cmpC a b < 0)) : s.Pairwise ltP := h.imp fun h => cmpC_neg.1 h
theorem refs_is {l : List Bond} {s : List Couple} (h1 : s.Pairwise fun a b => cmpC a b < 0) (h2 : ∀ x ∈ l, x.A ∈ s ∧ x.B ∈ s) (h3 : ∀ r ∈ s, ∃ x ∈ l, r = x.A ∨ r = x.B) : refsS l = s :=
  sorted_ext (refsS_sorted l) (pw_ltP h1) fun r => by
    rw [mem_refsS]
    exact ⟨fun ⟨x, hx, e⟩ => e.elim (fun e => e ▸ (h2 x hx).1) (fun e => e ▸ (h2 x hx).2), h3 r⟩
theorem sortC_is {s t : List Couple} (h1 : t.Pairwise fun a b => cmpC a b < 0) (h2 : s.Nodup) (h3 : ∀ r, r ∈ s ↔ r ∈ t) : sortC s = t :=
  sorted_ext (sortC_pw s h2) (pw_ltP h1) fun r => by rw [sortC_mem]; exact h3 r
theorem aw_refs : refsS awL = awR := refs_is (by decide +kernel) (by decide +kernel) (by decide +kernel)
theorem aw_split : splitS awL = [awL] := by unfold splitS; rw [aw_refs]; decide +kernel
theorem aw_exact : exactF awL [] = awP := by unfold exactF; rw [aw_refs]; decide +kernel
theorem aw_value : valueB awL awP = 21 := by decide +kernel
def awS (i : Nat) : Nat := if i = 0 then 1 else if i = 1 then 0 else i
theorem aw_StS : StS cmpW awL awO := by
  refine ⟨awS, ⟨rfl, fun i hi => ?_⟩, ⟨fun i hi => ?_, fun i h1 h2 => ?_, fun i j e => ?_⟩, fun i j h1 h2 h3 => ?_⟩
  · have hi : i < 4 := hi
    match i, hi with
    | 0, _ => exact ⟨by decide, rfl⟩
    | 1, _ => exact ⟨by decide, rfl⟩
    | 2, _ => exact ⟨by decide, rfl⟩
    | 3, _ => exact ⟨by decide, rfl⟩
  · have hi : ¬ (0 ≤ i ∧ i < 4) := hi
    unfold awS; split <;> (try split) <;> omega
  · have h2 : i < 4 := h2
    show 0 ≤ awS i ∧ awS i < 4
    unfold awS; split <;> (try split) <;> omega
  · unfold awS at e
    split at e <;> split at e <;> (try split at e) <;> (try split at e) <;> omega
  · have h3 : j < 4 := h3
    have hc : (i = 0 ∧ j = 1) ∨ (i = 0 ∧ j = 2) ∨ (i = 0 ∧ j = 3) ∨ (i = 1 ∧ j = 2) ∨ (i = 1 ∧ j = 3) ∨ (i = 2 ∧ j = 3) := by omega
    rcases hc with ⟨rfl, rfl⟩ | ⟨rfl, rfl⟩ | ⟨rfl, rfl⟩ | ⟨rfl, rfl⟩ | ⟨rfl, rfl⟩ | ⟨rfl, rfl⟩ <;> exact ⟨by decide, by decide, .inl (by decide +kernel)⟩
theorem aw_order : stS cmpW awL = awO := (aw_StS.eq cmpW_3 (fun _ _ => trivial)).symm
def awA : List Couple := [⟨0, 1⟩, ⟨1, 6⟩]
def awB : List Couple := [⟨1, 5⟩, ⟨2, 7⟩]
theorem aw_g : grG [] awO ⟨0, 1⟩ = awA ∧ grG [] awO ⟨1, 5⟩ = awB ∧ grG [] awO ⟨1, 6⟩ = awA ∧ grG [] awO ⟨2, 7⟩ = awB := by decide +kernel
theorem aw_sA : sortC awA = awA := sortC_is (by decide +kernel) (by decide +kernel) (fun _ => Iff.rfl)
theorem aw_sB : sortC awB = awB := sortC_is (by decide +kernel) (by decide +kernel) (fun _ => Iff.rfl)
theorem aw_greedy : greedyF awL [] = awP := by
  unfold greedyF
  rw [aw_order, aw_refs]
  obtain ⟨h1, h2, h3, h4⟩ := aw_g
  unfold grOut awR
  have k1 : grKeep (grG [] awO) ⟨0, 1⟩ = true := by unfold grKeep; rw [h1, aw_sA]; decide
  have k2 : grKeep (grG [] awO) ⟨1, 5⟩ = true := by unfold grKeep; rw [h2, aw_sB]; decide
  have k3 : grKeep (grG [] awO) ⟨1, 6⟩ = false := by unfold grKeep; rw [h3, aw_sA]; decide
  have k4 : grKeep (grG [] awO) ⟨2, 7⟩ = false := by unfold grKeep; rw [h4, aw_sB]; decide
  simp only [List.filter_cons, k1, k2, k3, k4, if_true, if_false, List.filter_nil, List.map_cons, List.map_nil, Bool.false_eq_true, h1, h2, aw_sA, aw_sB]
  rfl
theorem aw_sorted : StS cmpH awP awP := StS.self fun i j hij hj => by
  have hj : j < 2 := hj
  obtain ⟨rfl, rfl⟩ : i = 0 ∧ j = 1 := by omega
  exact (show cmpH [⟨0, 1⟩, ⟨1, 6⟩] [⟨1, 5⟩, ⟨2, 7⟩] < 0 by decide +kernel)
theorem aw_zs {zs : List (List Couple)} (h : StS cmpH awP zs) : zs = awP := h.uniq cmpH_3 (fun _ _ => trivial) aw_sorted
theorem aw_vld : Vld awL := by
  refine ⟨by decide, fun x hx => ?_, ?_⟩
  · simp only [awL, List.mem_cons, List.not_mem_nil, or_false] at hx
    rcases hx with rfl | rfl | rfl | rfl <;> exact ⟨by decide, by decide, by decide⟩
  · unfold awL lt2 ltP; decide
theorem aw_wayS : allW (wayS []) (splitS awL) = awP := by
  rw [aw_split]; unfold allW wayS
  simp only [List.flatMap_cons, List.flatMap_nil, List.append_nil, aw_refs]
  rw [if_pos (by decide), aw_exact]
theorem aw_wayX : allW (wayX []) (splitS awL) = awP := by
  rw [aw_split]; unfold allW wayX
  simp only [List.flatMap_cons, List.flatMap_nil, List.append_nil, aw_refs]
  rw [if_pos (by decide), aw_exact]
theorem aw_wayG : allW (wayG []) (splitS awL) = awP := by
  rw [aw_split]; unfold allW wayG
  simp only [List.flatMap_cons, List.flatMap_nil, List.append_nil, aw_greedy]
theorem aw_PV : PV awL [] awP := (sol_PV (wf := wayS []) (fun i hi => wayS_PV [] _) (by rw [aw_wayS]; exact aw_sorted)).1
end Go.K

/- The laws of persons: apart, best, large, scaled. Plain. -/
set_option linter.unusedVariables false
set_option linter.unusedSimpArgs false
namespace Go.K
open Rep
section
variable {l l' : List Bond} {ds ds' : List Dcs} {ps zs us : List (List Couple)}
theorem barB_le (h : ∀ a b, apB ds a b = true → apB ds' a b = true) {a b : Couple} (hb : barB ds' a b = false) : barB ds a b = false := by
  unfold barB at *
  simp only [Bool.or_eq_false_iff] at *
  refine ⟨⟨hb.1.1, ?_⟩, ?_⟩
  · rw [Bool.eq_false_iff]; intro e; rw [h _ _ e] at hb; exact absurd hb.1.2 (by decide)
  · rw [Bool.eq_false_iff]; intro e; rw [h _ _ e] at hb; exact absurd hb.2 (by decide)
theorem PV.more (h : ∀ x ∈ l, x ∈ l') (hP : PV l ds ps) : PV l' ds ps :=
  ⟨hP.asc, hP.len, hP.bar, fun p hp => joined_mono h (hP.join p hp), hP.disj, hP.heads⟩
theorem PV.free (h : ∀ a b, apB ds a b = true → apB ds' a b = true) (hP : PV l ds' ps) : PV l ds ps :=
  ⟨hP.asc, hP.len, fun p hp => (hP.bar p hp).imp fun h1 => barB_le h h1, hP.join, hP.disj, hP.heads⟩
theorem greedy_PVs (hS : StS cmpH (allW (wayG ds) (splitS l)) zs) : PV l ds zs := (sol_PV (fun i hi => wayG_PV ds _) hS).1
/-! ### Set apart -/
/-! ### Other weights -/
/-- Sorting what is mapped. -/
theorem StS.map {α β : Type} {c : α → α → Int} {c' : β → β → Int} {f : α → β} (hc : ∀ x y, (c' (f x) (f y) < 0 ↔ c x y < 0) ∧ (c' (f x) (f y) = 0 ↔ c x y = 0)) {ys zs : List α} (h : StS c ys zs) : StS c' (ys.map f) (zs.map f) := by
  obtain ⟨σ, h1, h2, h3⟩ := h
  refine ⟨σ, ⟨by rw [List.length_map, List.length_map, h1.len], fun i hi => ?_⟩, by rw [List.length_map]; exact h2, fun i j a b d => ?_⟩
  · rw [List.length_map] at hi
    have := h1.at_ i hi
    exact ⟨by rw [List.length_map]; exact this.1, by rw [List.getElem?_map, List.getElem?_map, this.2]⟩
  · rw [List.length_map] at d
    obtain ⟨e1, e2, e3⟩ := h3 i j a b d
    refine ⟨by rw [List.length_map]; exact e1, by rw [List.length_map]; exact e2, ?_⟩
    rw [List.getElem_map, List.getElem_map, (hc _ _).1, (hc _ _).2]
    exact e3
/-! ### One component alone -/
end
end Go.K

/- The bonds of a chain, and decisions that a deck deals. Plain. -/
set_option linter.unusedVariables false
set_option linter.unusedSimpArgs false
namespace Go.K
open Rep
/-! ### A chain -/
def okLg (p : Nat) (x : Bond) : Prop := x.A.a = 0 ∧ 1 ≤ x.A.b ∧ x.A.b < p ∧ x.B.a = 1 ∧ (x.B.b = x.A.b ∨ x.B.b = x.A.b + 1) ∧ 1 ≤ x.w ∧ x.w ≤ 9
structure Lg (p : Nat) (l : List Bond) : Prop where
  ok : ∀ x ∈ l, okLg p x
  asc : l.Pairwise lt2
  len : l.length = 2 * (p - 1)
  e1 : ∀ i : Nat, 1 ≤ i → i < p → ∃ w, (⟨⟨0, i⟩, ⟨1, i⟩, w⟩ : Bond) ∈ l
  e2 : ∀ i : Nat, 1 ≤ i → i < p → ∃ w, (⟨⟨0, i⟩, ⟨1, i + 1⟩, w⟩ : Bond) ∈ l
theorem Lg.start : Lg 1 [] := ⟨by simp, List.Pairwise.nil, rfl, fun i h1 h2 => by omega, fun i h1 h2 => by omega⟩
theorem Lg.push {p : Nat} {l : List Bond} {q1 q2 : Nat} (h : Lg p l) (hp : 1 ≤ p) (h1 : (q1 : Int) < 9) (h2 : (q2 : Int) < 9) : Lg (p + 1) (l ++ [⟨⟨0, p⟩, ⟨1, p⟩, 1 + q1⟩, ⟨⟨0, p⟩, ⟨1, p + 1⟩, 1 + q2⟩]) := by
  refine ⟨fun x hx => ?_, ?_, ?_, fun i h3 h4 => ?_, fun i h3 h4 => ?_⟩
  · rcases List.mem_append.1 hx with hx | hx
    · have := h.ok x hx; unfold okLg at *; omega
    · simp only [List.mem_cons, List.not_mem_nil, or_false] at hx
      rcases hx with rfl | rfl
      · exact ⟨rfl, by show (1 : Int) ≤ p; omega, by show (p : Int) < (p + 1 : Nat); omega, rfl, .inl rfl, by show (1 : Int) ≤ 1 + q1; omega, by show (1 : Int) + q1 ≤ 9; omega⟩
      · exact ⟨rfl, by show (1 : Int) ≤ p; omega, by show (p : Int) < (p + 1 : Nat); omega, rfl, .inr rfl, by show (1 : Int) ≤ 1 + q2; omega, by show (1 : Int) + q2 ≤ 9; omega⟩
  · rw [List.pairwise_append]
    refine ⟨h.asc, ?_, fun x hx y hy => ?_⟩
    · rw [List.pairwise_cons]
      refine ⟨fun y hy => ?_, List.pairwise_singleton _ _⟩
      simp only [List.mem_singleton] at hy; subst hy
      exact .inr ⟨rfl, .inr ⟨rfl, by show (p : Int) < p + 1; omega⟩⟩
    · have h3 := h.ok x hx
      unfold okLg at h3
      simp only [List.mem_cons, List.not_mem_nil, or_false] at hy
      rcases hy with rfl | rfl
      · exact .inl (.inr ⟨h3.1, h3.2.2.1⟩)
      · exact .inl (.inr ⟨h3.1, h3.2.2.1⟩)
  · rw [List.length_append, h.len]; simp only [List.length_cons, List.length_nil]; omega
  · by_cases e : i = p
    · subst e; exact ⟨1 + q1, by simp⟩
    · obtain ⟨w, hw⟩ := h.e1 i h3 (by omega); exact ⟨w, List.mem_append.2 (.inl hw)⟩
  · by_cases e : i = p
    · subst e; exact ⟨1 + q2, by simp⟩
    · obtain ⟨w, hw⟩ := h.e2 i h3 (by omega); exact ⟨w, List.mem_append.2 (.inl hw)⟩
section
variable {p : Nat} {l : List Bond}
theorem Lg.vld (h : Lg p l) (hp : p ≤ 8) : Vld l := by
  refine ⟨by rw [h.len]; omega, fun x hx => ?_, h.asc⟩
  have h1 := h.ok x hx
  unfold okLg at h1
  refine ⟨?_, by omega, by omega⟩
  unfold cplOK refOK
  simp only [Bool.and_eq_true, decide_eq_true_eq]
  omega
theorem Lg.many (h : Lg p l) (hp : 6 ≤ p) : 8 < (refsS l).length := by
  have hr : ∀ i : Nat, 1 ≤ i → i < 6 → (⟨0, i⟩ : Couple) ∈ refsS l ∧ (⟨1, i⟩ : Couple) ∈ refsS l := fun i h1 h2 => by
    obtain ⟨w, hw⟩ := h.e1 i h1 (by omega)
    exact ⟨mem_refsS.2 ⟨_, hw, .inl rfl⟩, mem_refsS.2 ⟨_, hw, .inr rfl⟩⟩
  have hn : ([⟨0, 1⟩, ⟨0, 2⟩, ⟨0, 3⟩, ⟨0, 4⟩, ⟨0, 5⟩, ⟨1, 1⟩, ⟨1, 2⟩, ⟨1, 3⟩, ⟨1, 4⟩, ⟨1, 5⟩] : List Couple).Nodup := by decide
  have := hn.length_le_of_subset (l₂ := refsS l) fun r hr2 => by
    simp only [List.mem_cons, List.not_mem_nil, or_false] at hr2
    rcases hr2 with rfl | rfl | rfl | rfl | rfl | rfl | rfl | rfl | rfl | rfl
    · exact (hr 1 (by omega) (by omega)).1
    · exact (hr 2 (by omega) (by omega)).1
    · exact (hr 3 (by omega) (by omega)).1
    · exact (hr 4 (by omega) (by omega)).1
    · exact (hr 5 (by omega) (by omega)).1
    · exact (hr 1 (by omega) (by omega)).2
    · exact (hr 2 (by omega) (by omega)).2
    · exact (hr 3 (by omega) (by omega)).2
    · exact (hr 4 (by omega) (by omega)).2
    · exact (hr 5 (by omega) (by omega)).2
  simp only [List.length_cons, List.length_nil] at this
  omega
/-- A list of refs within bounds is short. -/
theorem refs_few {R I : Nat} {s : List Couple} (hn : s.Nodup) (h : ∀ r ∈ s, 0 ≤ r.a ∧ r.a < R ∧ 1 ≤ r.b ∧ r.b ≤ I) : s.length ≤ R * I := by
  have := hn.length_le_of_subset (l₂ := (List.range R).flatMap fun a : Nat => (List.range I).map fun b : Nat => (⟨(a : Int), (b : Int) + 1⟩ : Couple)) fun r hr => by
    have h1 := h r hr
    obtain ⟨a, b⟩ := r
    simp only at h1
    refine List.mem_flatMap.2 ⟨a.toNat, List.mem_range.2 (by omega), List.mem_map.2 ⟨(b - 1).toNat, List.mem_range.2 (by omega), ?_⟩⟩
    rw [Int.toNat_of_nonneg (by omega), Int.toNat_of_nonneg (by omega)]
    congr 1; omega
  refine Nat.le_trans this (Nat.le_of_eq ?_)
  rw [List.length_flatMap]
  simp only [List.length_map, List.length_range]
  have key : ∀ L : List Nat, (L.map fun _ => I).sum = L.length * I := by
    intro L
    induction L with
    | nil => simp
    | cons a t ih => rw [List.map_cons, List.sum_cons, ih, List.length_cons, Nat.succ_mul, Nat.add_comm]
  rw [key, List.length_range]
theorem Lg.few (h : Lg p l) (hp : p ≤ 8) : (refsS l).length ≤ 16 := by
  have := refs_few (R := 2) (I := 8) (refsS_nodup l) fun r hr => by
    obtain ⟨x, hx, e⟩ := mem_refsS.1 hr
    have h1 := h.ok x hx
    unfold okLg at h1
    rcases e with rfl | rfl <;> omega
  omega
theorem Dlt.few {R I : Nat} (h : Dlt R I l) : (refsS l).length ≤ R * I := refs_few (refsS_nodup l) fun r hr => by
  obtain ⟨x, hx, e⟩ := mem_refsS.1 hr
  have h1 := h.1 x hx
  unfold okR at h1
  rcases e with rfl | rfl <;> omega
end
/-! ### Decisions that a deck deals -/
def okDc (R I : Nat) (x : Dcs) : Prop := 0 ≤ x.A.a ∧ x.A.a < x.B.a ∧ x.B.a < R ∧ 1 ≤ x.A.b ∧ x.A.b ≤ I ∧ 1 ≤ x.B.b ∧ x.B.b ≤ I ∧ 1 ≤ x.va ∧ x.va ≤ 2 ∧ 1 ≤ x.vb ∧ x.vb ≤ 4
def CurD (r i s k : Nat) (x : Dcs) : Prop := x.A.a < r ∨ x.A.a = r ∧ (x.A.b < i ∨ x.A.b = i ∧ (x.B.a < s ∨ x.B.a = s ∧ x.B.b < k))
def Dd (R I r i s k : Nat) (l : List Dcs) : Prop := (∀ x ∈ l, okDc R I x ∧ CurD r i s k x) ∧ l.Pairwise ltD
structure Dds (R I : Nat) (l : List Dcs) : Prop where
  ok : ∀ i (h : i < l.length), dcsOK l[i]
  asc : ∀ i (h : i + 1 < l.length), cmpD l[i] l[i + 1] < 0
  len : l.length ≤ 4096
theorem Dd.nil (R I r i s k : Nat) : Dd R I r i s k [] := ⟨fun x h => by simp at h, List.Pairwise.nil⟩
theorem Dd.to {R I r i s k r' i' s' k' : Nat} {l : List Dcs} (h : Dd R I r i s k l) (hc : ∀ x, okDc R I x → CurD r i s k x → CurD r' i' s' k' x) : Dd R I r' i' s' k' l :=
  ⟨fun x hx => ⟨(h.1 x hx).1, hc x (h.1 x hx).1 (h.1 x hx).2⟩, h.2⟩
theorem Dd.len {R I r i s k : Nat} {l : List Dcs} (h : Dd R I r i s k l) (hR : R ≤ 4) (hI : I ≤ 4) : l.length ≤ 2048 := by
  have hb : ∀ x ∈ l, okDc R I x := fun x hx => (h.1 x hx).1
  have := asc_len (fun x : Dcs => (x.A.a * 512 + (x.A.b - 1) * 128 + x.B.a * 32 + (x.B.b - 1) * 8 + (x.va - 1) * 4 + (x.vb - 1)).toNat) 2048 l 0 (h.2.imp_of_mem fun {x y} hx hy hxy => by
    have h1 := hb x hx; have h2 := hb y hy
    unfold okDc at h1 h2
    unfold ltD at hxy
    show (x.A.a * 512 + (x.A.b - 1) * 128 + x.B.a * 32 + (x.B.b - 1) * 8 + (x.va - 1) * 4 + (x.vb - 1)).toNat < (y.A.a * 512 + (y.A.b - 1) * 128 + y.B.a * 32 + (y.B.b - 1) * 8 + (y.va - 1) * 4 + (y.vb - 1)).toNat
    omega) (fun x hx => by
    have h1 := hb x hx
    unfold okDc at h1
    show 0 ≤ _ ∧ (x.A.a * 512 + (x.A.b - 1) * 128 + x.B.a * 32 + (x.B.b - 1) * 8 + (x.va - 1) * 4 + (x.vb - 1)).toNat < 2048
    omega)
  simpa using this
theorem Dd.push {R I r i s k : Nat} {l : List Dcs} {x : Dcs} (h : Dd R I r i s k l) (hx : okDc R I x) (h1 : x.A.a = r ∧ x.A.b = i ∧ x.B.a = s ∧ x.B.b = k) : Dd R I r i s (k + 1) (l ++ [x]) := by
  refine ⟨fun y hy => ?_, ?_⟩
  · rcases List.mem_append.1 hy with hy | hy
    · obtain ⟨h3, h4⟩ := h.1 y hy
      refine ⟨h3, ?_⟩
      unfold CurD at *; omega
    · simp only [List.mem_singleton] at hy; subst hy
      exact ⟨hx, by unfold CurD; omega⟩
  · rw [List.pairwise_append]
    refine ⟨h.2, by simp, fun y hy z hz => ?_⟩
    simp only [List.mem_singleton] at hz; subst hz
    obtain ⟨h3, h4⟩ := h.1 y hy
    unfold CurD at h4; unfold ltD
    omega
theorem Dd.push2 {R I r i s k : Nat} {l : List Dcs} {x y : Dcs} (h : Dd R I r i s k l) (hx : okDc R I x) (hy : okDc R I y) (h1 : x.A.a = r ∧ x.A.b = i ∧ x.B.a = s ∧ x.B.b = k) (h2 : y.A = x.A ∧ y.B = x.B ∧ y.va = x.va ∧ x.vb < y.vb) : Dd R I r i s (k + 1) (l ++ [x] ++ [y]) := by
  have h3 := h.push hx h1
  obtain ⟨h2a, h2b, h2c, h2d⟩ := h2
  refine ⟨fun z hz => ?_, ?_⟩
  · rcases List.mem_append.1 hz with hz | hz
    · exact h3.1 z hz
    · simp only [List.mem_singleton] at hz; subst hz
      exact ⟨hy, by unfold CurD; rw [h2a, h2b]; omega⟩
  · rw [List.pairwise_append]
    refine ⟨h3.2, by simp, fun u hu z hz => ?_⟩
    simp only [List.mem_singleton] at hz; subst hz
    unfold ltD
    rw [h2a, h2b]
    rcases List.mem_append.1 hu with hu | hu
    · have h4 := (List.pairwise_append.1 h3.2).2.2 u hu x (by simp)
      unfold ltD at h4
      obtain ⟨h5, h6⟩ := h.1 u hu
      unfold CurD at h6
      omega
    · simp only [List.mem_singleton] at hu; subst hu
      omega
theorem Dd.fin {R I r i s k : Nat} {l : List Dcs} (h : Dd R I r i s k l) (hR : R ≤ 4) (hI : I ≤ 4) : Dds R I l := by
  refine ⟨fun i hi => ?_, fun i hi => ?_, by have := h.len hR hI; omega⟩
  · have h1 := (h.1 _ (List.getElem_mem hi)).1
    unfold okDc at h1
    unfold dcsOK cplOK refOK verOK
    simp only [Bool.and_eq_true, decide_eq_true_eq]
    omega
  · exact cmpD_all.1.2 (List.pairwise_iff_getElem.1 h.2 i (i + 1) (by omega) hi (by omega))
end Go.K

/- Further laws of persons: parts by themselves, the exact way within limits. Plain. -/
set_option linter.unusedVariables false
set_option linter.unusedSimpArgs false
namespace Go.K
open Rep
section
variable {l l' : List Bond} {ds : List Dcs} {zs us ps : List (List Couple)}
/-- What 'Exact' finds of components of at most eight refs is the best. -/
theorem exact_max2 (hv : Vld l) (h8 : ∀ k (hk : k < (splitS l).length), (refsS (splitS l)[k]).length ≤ 8) (hS : StS cmpH (allW (wayX ds) (splitS l)) zs) : PV l ds zs ∧ ∀ ps, PV l ds ps → valueB l ps ≤ valueB l zs := by
  obtain ⟨h1, h2⟩ := sol_PV (fun i hi => wayX_PV ds _) hS
  refine ⟨h1, fun ps hP => all_best hv hP fun i hi => ?_⟩
  rw [h2 i hi]
  unfold wayX
  have := h8 i hi
  rw [if_pos (by omega)]
theorem allW_small (h8 : ∀ k (hk : k < (splitS l).length), (refsS (splitS l)[k]).length ≤ 8) : allW (wayS ds) (splitS l) = allW (wayX ds) (splitS l) := by
  unfold allW
  rw [List.flatMap_def, List.flatMap_def]
  congr 1
  refine List.map_congr_left fun p hp => ?_
  obtain ⟨i, hi, rfl⟩ := List.getElem_of_mem hp
  have := h8 i hi
  unfold wayS wayX
  rw [if_pos (by omega), if_pos (by omega)]
/-! ### A part by itself -/
/-! ### All weights times a number, in place -/
end
end Go.K

/- From the row's reading of an argument to what the steps ask. -/
set_option linter.unusedVariables false
namespace Go.K
open Rep
/-- Nobody writes anything that stood at the start. -/
def Cn0 : Nat → Nat := fun _ => 0
theorem lim0 (w : World) : Lim w Cn0 := fun b h => absurd rfl h
theorem Stp.below {w w' : World} (h : Stp [] w Cn0 w' Cn0) : Go.RowKit.Below w.heap.size w w' := h.ext.below (Nat.le_refl _) (fun b hb => by simp at hb)

end Go.K

/- From the row's reading of an argument, of whatever make, to what the steps ask. -/
set_option linter.unusedVariables false
set_option linter.unusedSimpArgs false
namespace Go.K
open Rep

/-- Whatever the row reads at this type reads as a Lean value. -/
def Opens {H : Type} (enc : TypeId × Value → H) (P : Program) (w : World) (base : Nat) (spare : Nat → Bool) (held : Bool) (α : Type) [Rep α] (t : TypeId) : Prop :=
  P.cellsOf t = sz α ∧ ∀ (fuel : Nat) (cs : List Value) (x : DataW H × List MemPlace), DataW.trod enc P w base spare held fuel t cs = some x → ∃ a : α, rep w.heap (Mc Cn0) a cs

section
variable {H : Type} {enc : TypeId × Value → H} {P : Program} {w : World} {base : Nat} {spare : Nat → Bool} {held : Bool} {α β γ : Type} [Rep α] [Rep β] [Rep γ] {t e : TypeId}

theorem opens_int (ht : P.underlying t = some (.int .i64)) (hc : P.cellsOf t = 1) : Opens enc P w base spare held Int t := ⟨hc, fun fuel cs x h => by
  obtain ⟨n, rfl, _⟩ := DataW.trod_int ht h
  exact ⟨n, rfl⟩⟩
theorem opens_slice (ht : P.underlying t = some (.slice e)) (hc : P.cellsOf t = 1) (hsz : 0 < sz α) (he : Opens enc P w base spare held α e) : Opens enc P w base spare held (List α) t := ⟨hc, fun fuel cs x h => by
  rcases Go.Deep.open_slice ht h with ⟨rfl, _⟩ | ⟨a, len, cap, m, n, D, Pl, rfl, hb, hl, hm, hmm, hx, hcell⟩
  · exact ⟨[], none, 0, rfl, Nat.le_refl _, by simp, .inl rfl⟩
  · have hlm : len ≤ m := by rw [hmm]; split <;> omega
    have key : ∀ k, k ≤ len → ∃ xs : List α, xs.length = k ∧ ∀ i (hi : i < xs.length), ∃ cs', w.cells? base (a.add (i * sz α)) (sz α) = some cs' ∧ rep w.heap (Mc Cn0) xs[i] cs' := by
      intro k
      induction k with
      | zero => exact fun _ => ⟨[], rfl, fun i hi => by simp at hi⟩
      | succ k ih =>
        intro hk
        obtain ⟨xs, hxl, hxs⟩ := ih (by omega)
        obtain ⟨cs', h1, h2⟩ := hcell k (by omega)
        obtain ⟨y, hy⟩ := he.2 _ _ _ h2
        rw [he.1] at h1
        refine ⟨xs ++ [y], by simp [hxl], fun i hi => ?_⟩
        by_cases hik : i < xs.length
        · rw [List.getElem_append_left hik]; exact hxs i hik
        · have hik2 : i = k := by simp at hi; omega
          subst hik2
          rw [List.getElem_append_right (by omega)]
          exact ⟨cs', h1, by simpa [hxl] using hy⟩
    obtain ⟨xs, hxl, hxs⟩ := key len (Nat.le_refl _)
    refine ⟨xs, some a, cap, by rw [hxl], by omega, by unfold maxLen at hm; omega, ?_⟩
    by_cases h0 : len = 0
    · left; exact List.length_eq_zero_iff.1 (by omega)
    · right
      have hall : ∀ i (hi : i < xs.length), ∃ cs', cs'.length = sz α ∧ (∀ j (hj : j < cs'.length), w.cell? (a.add (i * sz α + j)) = some cs'[j]) ∧ rep w.heap (Mc Cn0) xs[i] cs' := fun i hi => by
        obtain ⟨cs', h1, h2⟩ := hxs i hi
        obtain ⟨_, h3, h4⟩ := World.cells?_some h1
        refine ⟨cs', h3, fun j hj => ?_, h2⟩
        have h5 := h4 j (by omega)
        rw [Addr.add_add] at h5
        rw [h5]; exact List.getElem?_eq_getElem hj
      obtain ⟨c0, hc0l, hc0, _⟩ := hall 0 (by omega)
      have hfirst := hc0 0 (by omega)
      obtain ⟨b, off, spot⟩ := a
      have hspot : spot = none := by simpa [Addr.add] using World.cell?_spot hfirst
      subst hspot
      refine ⟨b, off, rfl, ?_⟩
      simp only [addr_add] at hall hfirst
      unfold World.cell? at hfirst
      simp only at hfirst
      cases hbk : w.heap[b]? with
      | none => rw [hbk] at hfirst; cases hfirst
      | some ob =>
        cases ob with
        | cells c ty fz =>
          have hget : ∀ i (hi : i < xs.length), ∃ cs', cs'.length = sz α ∧ (∀ j (hj : j < cs'.length), c[off + (i * sz α + j)]? = some cs'[j]) ∧ rep w.heap (Mc Cn0) xs[i] cs' := fun i hi => by
            obtain ⟨cs', h1, h2, h3⟩ := hall i hi
            refine ⟨cs', h1, fun j hj => ?_, h3⟩
            have h4 := h2 j hj
            unfold World.cell? at h4
            simp only [hbk] at h4
            simpa using h4
          refine ⟨fun h => h rfl, c, ty, fz, hbk, ?_, fun i hi => ?_⟩
          · obtain ⟨cs', h1, h2, _⟩ := hget (len - 1) (by omega)
            have h3 := (Array.getElem?_eq_some_iff.1 (h2 (sz α - 1) (by omega))).1
            have h4 : len * sz α = (len - 1) * sz α + sz α := by
              have : len = (len - 1) + 1 := by omega
              rw [this, Nat.succ_mul]; simp
            rw [hxl, h4]; omega
          · obtain ⟨cs', h1, h2, h3⟩ := hget i hi
            have : cellsAt c (off + i * sz α) (sz α) = cs' := by
              apply List.ext_getElem?
              intro r
              simp only [cellsAt, List.getElem?_take, List.getElem?_drop, Array.getElem?_toList]
              by_cases hr : r < sz α
              · rw [if_pos hr, List.getElem?_eq_getElem (by omega), Nat.add_assoc]; exact h2 r (by omega)
              · rw [if_neg hr, List.getElem?_eq_none (by omega)]
            rw [this]; exact h3
        | _ => rw [hbk] at hfirst; cases hfirst⟩

theorem Opens.rv (h : Opens enc P w base spare held α t) (hx : Rep.agg α = false) {fuel : Nat} {v : Value} {x : DataW H × List MemPlace} (ht : DataW.trod enc P w base spare held fuel t [v] = some x) : ∃ a : α, RV w (Mc Cn0) a v := by
  obtain ⟨a, ha⟩ := h.2 _ _ _ ht
  exact ⟨a, rep1_rv ha hx⟩
end
end Go.K
