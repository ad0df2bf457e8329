/- The sanity check's bonds: reckoned. Plain. -/
import Derived.Test.YtdmgmlmlielfbaaGreatL2
import Derived.Test.YtdmgmlmlielfbaaGreatL1
import Derived.WalkKit
import Derived.ProofKit
import Derived.OpenShut
import Derived.ChangeSlices
import Derived.Below
import Derived.Carry
import Derived.Deep.Slices
import Derived.WideShapes
import Derived.ChangeArms
set_option linter.unusedVariables false
set_option linter.unusedSimpArgs false
set_option maxRecDepth 100000
namespace Go.K
open Rep
def awL : List Bond := [⟨⟨0, 1⟩, ⟨1, 5⟩, 10⟩, ⟨⟨0, 1⟩, ⟨1, 6⟩, 12⟩, ⟨⟨1, 5⟩, ⟨2, 7⟩, 9⟩, ⟨⟨1, 6⟩, ⟨2, 7⟩, 3⟩]
def awO : List Bond := [⟨⟨0, 1⟩, ⟨1, 6⟩, 12⟩, ⟨⟨0, 1⟩, ⟨1, 5⟩, 10⟩, ⟨⟨1, 5⟩, ⟨2, 7⟩, 9⟩, ⟨⟨1, 6⟩, ⟨2, 7⟩, 3⟩]
def awP : List (List Couple) := [[⟨0, 1⟩, ⟨1, 6⟩], [⟨1, 5⟩, ⟨2, 7⟩]]
def awR : List Couple := [⟨0, 1⟩, ⟨1, 5⟩, ⟨1, 6⟩, ⟨2, 7⟩]
theorem pw_ltP {s : List Couple} (h : (s.Pairwise fun a b => cmpC a b < 0)) : s.Pairwise ltP := h.imp fun h => cmpC_neg.1 h
theorem refs_is {l : List Bond} {s : List Couple} (h1 : s.Pairwise fun a b => cmpC a b < 0) (h2 : ∀ x ∈ l, x.A ∈ s ∧ x.B ∈ s) (h3 : ∀ r ∈ s, ∃ x ∈ l, r = x.A ∨ r = x.B) : refsS l = s :=
  sorted_ext (refsS_sorted l) (pw_ltP h1) fun r => by
    rw [mem_refsS]
    exact ⟨fun ⟨x, hx, e⟩ => e.elim (fun e => e ▸ (h2 x hx).1) (fun e => e ▸ (h2 x hx).2), h3 r⟩
theorem sortC_is {s t : List Couple} (h1 : t.Pairwise fun a b => cmpC a b < 0) (h2 : s.Nodup) (h3 : ∀ r, r ∈ s ↔ r ∈ t) : sortC s = t :=
  sorted_ext (sortC_pw s h2) (pw_ltP h1) fun r => by rw [sortC_mem]; exact h3 r
theorem aw_refs : refsS awL = awR := refs_is (by decide +kernel) (by decide +kernel) (by decide +kernel)
theorem aw_split : splitS awL = [awL] := by unfold splitS; rw [aw_refs]; decide +kernel
theorem aw_exact : exactF awL [] = awP := by unfold exactF; rw [aw_refs]; decide +kernel
theorem aw_value : valueB awL awP = 21 := by decide +kernel
def awS (i : Nat) : Nat := if i = 0 then 1 else if i = 1 then 0 else i
theorem aw_StS : StS cmpW awL awO := by
  refine ⟨awS, ⟨rfl, fun i hi => ?_⟩, ⟨fun i hi => ?_, fun i h1 h2 => ?_, fun i j e => ?_⟩, fun i j h1 h2 h3 => ?_⟩
  · have hi : i < 4 := hi
    match i, hi with
    | 0, _ => exact ⟨by decide, rfl⟩
    | 1, _ => exact ⟨by decide, rfl⟩
    | 2, _ => exact ⟨by decide, rfl⟩
    | 3, _ => exact ⟨by decide, rfl⟩
  · have hi : ¬ (0 ≤ i ∧ i < 4) := hi
    unfold awS; split <;> (try split) <;> omega
  · have h2 : i < 4 := h2
    show 0 ≤ awS i ∧ awS i < 4
    unfold awS; split <;> (try split) <;> omega
  · unfold awS at e
    split at e <;> split at e <;> (try split at e) <;> (try split at e) <;> omega
  · have h3 : j < 4 := h3
    have hc : (i = 0 ∧ j = 1) ∨ (i = 0 ∧ j = 2) ∨ (i = 0 ∧ j = 3) ∨ (i = 1 ∧ j = 2) ∨ (i = 1 ∧ j = 3) ∨ (i = 2 ∧ j = 3) := by omega
    rcases hc with ⟨rfl, rfl⟩ | ⟨rfl, rfl⟩ | ⟨rfl, rfl⟩ | ⟨rfl, rfl⟩ | ⟨rfl, rfl⟩ | ⟨rfl, rfl⟩ <;> exact ⟨by decide, by decide, .inl (by decide +kernel)⟩
theorem aw_order : stS cmpW awL = awO := (aw_StS.eq cmpW_3 (fun _ _ => trivial)).symm
def awA : List Couple := [⟨0, 1⟩, ⟨1, 6⟩]
def awB : List Couple := [⟨1, 5⟩, ⟨2, 7⟩]
theorem aw_g : grG [] awO ⟨0, 1⟩ = awA ∧ grG [] awO ⟨1, 5⟩ = awB ∧ grG [] awO ⟨1, 6⟩ = awA ∧ grG [] awO ⟨2, 7⟩ = awB := by decide +kernel
theorem aw_sA : sortC awA = awA := sortC_is (by decide +kernel) (by decide +kernel) (fun _ => Iff.rfl)
theorem aw_sB : sortC awB = awB := sortC_is (by decide +kernel) (by decide +kernel) (fun _ => Iff.rfl)
theorem aw_greedy : greedyF awL [] = awP := by
  unfold greedyF
  rw [aw_order, aw_refs]
  obtain ⟨h1, h2, h3, h4⟩ := aw_g
  unfold grOut awR
  have k1 : grKeep (grG [] awO) ⟨0, 1⟩ = true := by unfold grKeep; rw [h1, aw_sA]; decide
  have k2 : grKeep (grG [] awO) ⟨1, 5⟩ = true := by unfold grKeep; rw [h2, aw_sB]; decide
  have k3 : grKeep (grG [] awO) ⟨1, 6⟩ = false := by unfold grKeep; rw [h3, aw_sA]; decide
  have k4 : grKeep (grG [] awO) ⟨2, 7⟩ = false := by unfold grKeep; rw [h4, aw_sB]; decide
  simp only [List.filter_cons, k1, k2, k3, k4, if_true, if_false, List.filter_nil, List.map_cons, List.map_nil, Bool.false_eq_true, h1, h2, aw_sA, aw_sB]
  rfl
theorem aw_sorted : StS cmpH awP awP := StS.self fun i j hij hj => by
  have hj : j < 2 := hj
  obtain ⟨rfl, rfl⟩ : i = 0 ∧ j = 1 := by omega
  exact (show cmpH [⟨0, 1⟩, ⟨1, 6⟩] [⟨1, 5⟩, ⟨2, 7⟩] < 0 by decide +kernel)
theorem aw_zs {zs : List (List Couple)} (h : StS cmpH awP zs) : zs = awP := h.uniq cmpH_3 (fun _ _ => trivial) aw_sorted
theorem aw_vld : Vld awL := by
  refine ⟨by decide, fun x hx => ?_, ?_⟩
  · simp only [awL, List.mem_cons, List.not_mem_nil, or_false] at hx
    rcases hx with rfl | rfl | rfl | rfl <;> exact ⟨by decide, by decide, by decide⟩
  · unfold awL lt2 ltP; decide
theorem aw_wayS : allW (wayS []) (splitS awL) = awP := by
  rw [aw_split]; unfold allW wayS
  simp only [List.flatMap_cons, List.flatMap_nil, List.append_nil, aw_refs]
  rw [if_pos (by decide), aw_exact]
theorem aw_wayX : allW (wayX []) (splitS awL) = awP := by
  rw [aw_split]; unfold allW wayX
  simp only [List.flatMap_cons, List.flatMap_nil, List.append_nil, aw_refs]
  rw [if_pos (by decide), aw_exact]
theorem aw_wayG : allW (wayG []) (splitS awL) = awP := by
  rw [aw_split]; unfold allW wayG
  simp only [List.flatMap_cons, List.flatMap_nil, List.append_nil, aw_greedy]
theorem aw_PV : PV awL [] awP := (sol_PV (wf := wayS []) (fun i hi => wayS_PV [] _) (by rw [aw_wayS]; exact aw_sorted)).1
end Go.K

/- The laws of persons: apart, best, large, scaled. Plain. -/
set_option linter.unusedVariables false
set_option linter.unusedSimpArgs false
namespace Go.K
open Rep
section
variable {l l' : List Bond} {ds ds' : List Dcs} {ps zs us : List (List Couple)}
theorem barB_le (h : ∀ a b, apB ds a b = true → apB ds' a b = true) {a b : Couple} (hb : barB ds' a b = false) : barB ds a b = false := by
  unfold barB at *
  simp only [Bool.or_eq_false_iff] at *
  refine ⟨⟨hb.1.1, ?_⟩, ?_⟩
  · rw [Bool.eq_false_iff]; intro e; rw [h _ _ e] at hb; exact absurd hb.1.2 (by decide)
  · rw [Bool.eq_false_iff]; intro e; rw [h _ _ e] at hb; exact absurd hb.2 (by decide)
theorem PV.more (h : ∀ x ∈ l, x ∈ l') (hP : PV l ds ps) : PV l' ds ps :=
  ⟨hP.asc, hP.len, hP.bar, fun p hp => joined_mono h (hP.join p hp), hP.disj, hP.heads⟩
theorem PV.free (h : ∀ a b, apB ds a b = true → apB ds' a b = true) (hP : PV l ds' ps) : PV l ds ps :=
  ⟨hP.asc, hP.len, fun p hp => (hP.bar p hp).imp fun h1 => barB_le h h1, hP.join, hP.disj, hP.heads⟩
theorem wayX_eq : StS cmpH (allW (wayX ds) (splitS l)) zs → StS cmpH (allW (wayX ds) (splitS l)) us → zs = us := fun h1 h2 => h1.uniq cmpH_3 (fun _ _ => trivial) h2
/-! ### Set apart -/
/-! ### Other weights -/
def scB (k : Int) (x : Bond) : Bond := ⟨x.A, x.B, x.w * k⟩
def scL (k : Int) (l : List Bond) : List Bond := l.map (scB k)
theorem ends_sc (k : Int) (l : List Bond) : endsS (scL k l) = endsS l := by unfold endsS scL; rw [List.flatMap_map]; rfl
theorem refs_sc (k : Int) (l : List Bond) : refsS (scL k l) = refsS l := by unfold refsS; rw [ends_sc]
theorem rhoF_sc (k : Int) : ∀ (l : List Bond) (ρ : Couple → Couple), rhoF ρ (scL k l) = rhoF ρ l
  | [], _ => rfl
  | x :: l, ρ => by
    have := rhoF_sc k l (joinF ρ x.A x.B)
    exact this
theorem rho_sc (k : Int) (l : List Bond) : rhoS (scL k l) = rhoS l := rhoF_sc k l id
theorem split_sc (k : Int) (l : List Bond) : splitS (scL k l) = (splitS l).map (scL k) := by
  unfold splitS
  rw [rho_sc, refs_sc, List.map_map]
  refine List.map_congr_left fun q _ => ?_
  unfold scL
  rw [List.filter_map]
  rfl
theorem within_sc (k : Int) (l : List Bond) (s : List Couple) : withinB (scL k l) s = scL k (withinB l s) := by
  unfold withinB scL; rw [List.filter_map]; rfl
theorem join_sc (k : Int) (l : List Bond) (s : List Couple) : joinB (scL k l) s = joinB l s := by unfold joinB; rw [within_sc, rho_sc]
theorem sum_sc (k : Int) : ∀ (l : List Bond), ((scL k l).map (·.w)).sum = (l.map (·.w)).sum * k
  | [] => by simp [scL]
  | x :: l => by
    have := sum_sc k l
    unfold scL at *
    simp only [List.map_cons, List.sum_cons]
    rw [this, Int.add_mul]; rfl
theorem value_sc (k : Int) (l : List Bond) (ps : List (List Couple)) : valueB (scL k l) ps = valueB l ps * k := by
  unfold valueB
  rw [← sum_sc]
  congr 2
  unfold scL
  rw [List.filter_map]
  rfl
def StSc (k : Int) (a b : BestSt) : Prop := a.found = b.found ∧ a.best = b.best ∧ a.val = b.val * k
theorem finF_sc {k : Int} (hk : 0 < k) {a b : BestSt} (h : StSc k a b) (s : List (List Couple)) : StSc k (finF (scL k l) a s) (finF l b s) := by
  obtain ⟨h1, h2, h3⟩ := h
  have hf : finOK (scL k l) s = finOK l s := by unfold finOK; rw [show joinB (scL k l) = joinB l from funext (join_sc k l)]
  have hc : (finOK (scL k l) s = true ∧ (a.found = false ∨ a.val < valueB (scL k l) (bigs s))) ↔ (finOK l s = true ∧ (b.found = false ∨ b.val < valueB l (bigs s))) := by
    rw [hf, h1, h3, value_sc]
    have : b.val * k < valueB l (bigs s) * k ↔ b.val < valueB l (bigs s) := ⟨fun h => Int.lt_of_mul_lt_mul_right h (Int.le_of_lt hk), fun h => Int.mul_lt_mul_of_pos_right h hk⟩
    rw [this]
  unfold finF
  by_cases e : finOK l s = true ∧ (b.found = false ∨ b.val < valueB l (bigs s))
  · rw [if_pos e, if_pos (hc.2 e)]; exact ⟨rfl, rfl, value_sc _ _ _⟩
  · rw [if_neg e, if_neg (fun h => e (hc.1 h))]; exact ⟨h1, h2, h3⟩
theorem fold_sc {k : Int} (hk : 0 < k) : ∀ (L : List (List (List Couple))) {a b : BestSt}, StSc k a b → StSc k (L.foldl (finF (scL k l)) a) (L.foldl (finF l) b)
  | [], _, _, h => h
  | s :: L, _, _, h => fold_sc hk L (finF_sc hk h s)
theorem exactF_sc {k : Int} (hk : 0 < k) (l : List Bond) (ds : List Dcs) : exactF (scL k l) ds = exactF l ds := by
  unfold exactF placeF
  rw [refs_sc]
  exact (fold_sc hk _ (a := st0) (b := st0) ⟨rfl, rfl, by simp [st0]⟩).2.1
theorem wayX_sc {k : Int} (hk : 0 < k) (l : List Bond) (ds : List Dcs) : wayX ds (scL k l) = wayX ds l := by
  unfold wayX; rw [refs_sc, exactF_sc hk]
theorem allW_sc {k : Int} {wf : List Bond → List (List Couple) × Int} (h : ∀ l, wf (scL k l) = wf l) (l : List Bond) : allW wf (splitS (scL k l)) = allW wf (splitS l) := by
  unfold allW
  rw [split_sc, List.flatMap_map]
  congr 1
  funext p
  rw [h]
/-- Sorting what is mapped. -/
theorem StS.map {α β : Type} {c : α → α → Int} {c' : β → β → Int} {f : α → β} (hc : ∀ x y, (c' (f x) (f y) < 0 ↔ c x y < 0) ∧ (c' (f x) (f y) = 0 ↔ c x y = 0)) {ys zs : List α} (h : StS c ys zs) : StS c' (ys.map f) (zs.map f) := by
  obtain ⟨σ, h1, h2, h3⟩ := h
  refine ⟨σ, ⟨by rw [List.length_map, List.length_map, h1.len], fun i hi => ?_⟩, by rw [List.length_map]; exact h2, fun i j a b d => ?_⟩
  · rw [List.length_map] at hi
    have := h1.at_ i hi
    exact ⟨by rw [List.length_map]; exact this.1, by rw [List.getElem?_map, List.getElem?_map, this.2]⟩
  · rw [List.length_map] at d
    obtain ⟨e1, e2, e3⟩ := h3 i j a b d
    refine ⟨by rw [List.length_map]; exact e1, by rw [List.length_map]; exact e2, ?_⟩
    rw [List.getElem_map, List.getElem_map, (hc _ _).1, (hc _ _).2]
    exact e3
theorem cmpW_sc {k : Int} (hk : 0 < k) (x y : Bond) : cmpW (scB k x) (scB k y) = cmpW x y := by
  unfold cmpW cmpI scB
  simp only
  have h1 : y.w * k < x.w * k ↔ y.w < x.w := ⟨fun h => Int.lt_of_mul_lt_mul_right h (Int.le_of_lt hk), fun h => Int.mul_lt_mul_of_pos_right h hk⟩
  have h2 : x.w * k < y.w * k ↔ x.w < y.w := ⟨fun h => Int.lt_of_mul_lt_mul_right h (Int.le_of_lt hk), fun h => Int.mul_lt_mul_of_pos_right h hk⟩
  simp only [h1, h2]
theorem grG_sc (k : Int) (ds : List Dcs) : ∀ (l : List Bond) (g : Couple → List Couple), (scL k l).foldl (grStep ds) g = l.foldl (grStep ds) g
  | [], _ => rfl
  | x :: l, g => grG_sc k ds l (grStep ds g x)
theorem StS.unmap {α β : Type} {c : α → α → Int} {c' : β → β → Int} {f : α → β} (hc : ∀ x y, (c' (f x) (f y) < 0 ↔ c x y < 0) ∧ (c' (f x) (f y) = 0 ↔ c x y = 0)) {ys : List α} {us : List β} (h : StS c' (ys.map f) us) : ∃ zs, StS c ys zs := by
  obtain ⟨σ, h1, h2, h3⟩ := h
  rw [List.length_map] at h2 h3
  have hb : ∀ i, i < ys.length → σ i < ys.length := fun i hi => (h2.in_ i (Nat.zero_le _) hi).2
  refine ⟨List.ofFn (fun i : Fin ys.length => ys[σ i.val]'(hb i.val i.isLt)), σ, ⟨by simp, fun i hi => ⟨hb i hi, by simp [hi, hb i hi]⟩⟩, h2, fun i j a b d => ?_⟩
  obtain ⟨e1, e2, e3⟩ := h3 i j a b d
  rw [List.getElem_map, List.getElem_map, (hc _ _).1, (hc _ _).2] at e3
  rw [List.length_map] at e1 e2
  exact ⟨e1, e2, e3⟩
theorem stS_map {α β : Type} {c : α → α → Int} {c' : β → β → Int} {f : α → β} (hc : ∀ x y, (c' (f x) (f y) < 0 ↔ c x y < 0) ∧ (c' (f x) (f y) = 0 ↔ c x y = 0)) (h3 : Cmp3 c (fun _ => True)) (h3' : Cmp3 c' (fun _ => True)) (ys : List α) : stS c' (ys.map f) = (stS c ys).map f := by
  by_cases h : ∃ zs, StS c ys zs
  · obtain ⟨zs, hz⟩ := h
    rw [← hz.eq h3 (fun _ _ => trivial), ← (hz.map hc).eq h3' (fun _ _ => trivial)]
  · have h' : ¬ ∃ us, StS c' (ys.map f) us := fun ⟨us, hu⟩ => h (hu.unmap hc)
    unfold stS
    rw [dif_neg h, dif_neg h']
theorem greedyF_sc {k : Int} (hk : 0 < k) (l : List Bond) (ds : List Dcs) : greedyF (scL k l) ds = greedyF l ds := by
  unfold greedyF
  rw [refs_sc, show stS cmpW (scL k l) = scL k (stS cmpW l) from stS_map (fun x y => by rw [cmpW_sc hk]; exact ⟨Iff.rfl, Iff.rfl⟩) cmpW_3 cmpW_3 l]
  unfold grG
  rw [grG_sc]
theorem wayG_sc {k : Int} (hk : 0 < k) (l : List Bond) (ds : List Dcs) : wayG ds (scL k l) = wayG ds l := by unfold wayG; rw [greedyF_sc hk]
theorem vld_sc {k : Int} (hv : Vld l) (hk : 0 < k) (hw : ∀ x ∈ l, x.w * k ≤ 1048576) : Vld (scL k l) := by
  refine ⟨by unfold scL; rw [List.length_map]; exact hv.1, fun y hy => ?_, ?_⟩
  · obtain ⟨x, hx, rfl⟩ := List.mem_map.1 hy
    obtain ⟨h1, h2, h3⟩ := hv.2.1 x hx
    refine ⟨h1, ?_, hw x hx⟩
    have : 0 < x.w * k := Int.mul_pos (by omega) hk
    show 1 ≤ x.w * k
    omega
  · unfold scL
    rw [List.pairwise_map]
    exact hv.2.2.imp fun h => h
/-! ### One component alone -/
end
end Go.K

/- The bonds of a chain, and decisions that a deck deals. Plain. -/
set_option linter.unusedVariables false
set_option linter.unusedSimpArgs false
namespace Go.K
open Rep
/-! ### A chain -/
def okLg (p : Nat) (x : Bond) : Prop := x.A.a = 0 ∧ 1 ≤ x.A.b ∧ x.A.b < p ∧ x.B.a = 1 ∧ (x.B.b = x.A.b ∨ x.B.b = x.A.b + 1) ∧ 1 ≤ x.w ∧ x.w ≤ 9
structure Lg (p : Nat) (l : List Bond) : Prop where
  ok : ∀ x ∈ l, okLg p x
  asc : l.Pairwise lt2
  len : l.length = 2 * (p - 1)
  e1 : ∀ i : Nat, 1 ≤ i → i < p → ∃ w, (⟨⟨0, i⟩, ⟨1, i⟩, w⟩ : Bond) ∈ l
  e2 : ∀ i : Nat, 1 ≤ i → i < p → ∃ w, (⟨⟨0, i⟩, ⟨1, i + 1⟩, w⟩ : Bond) ∈ l
theorem Lg.start : Lg 1 [] := ⟨by simp, List.Pairwise.nil, rfl, fun i h1 h2 => by omega, fun i h1 h2 => by omega⟩
theorem Lg.push {p : Nat} {l : List Bond} {q1 q2 : Nat} (h : Lg p l) (hp : 1 ≤ p) (h1 : (q1 : Int) < 9) (h2 : (q2 : Int) < 9) : Lg (p + 1) (l ++ [⟨⟨0, p⟩, ⟨1, p⟩, 1 + q1⟩, ⟨⟨0, p⟩, ⟨1, p + 1⟩, 1 + q2⟩]) := by
  refine ⟨fun x hx => ?_, ?_, ?_, fun i h3 h4 => ?_, fun i h3 h4 => ?_⟩
  · rcases List.mem_append.1 hx with hx | hx
    · have := h.ok x hx; unfold okLg at *; omega
    · simp only [List.mem_cons, List.not_mem_nil, or_false] at hx
      rcases hx with rfl | rfl
      · exact ⟨rfl, by show (1 : Int) ≤ p; omega, by show (p : Int) < (p + 1 : Nat); omega, rfl, .inl rfl, by show (1 : Int) ≤ 1 + q1; omega, by show (1 : Int) + q1 ≤ 9; omega⟩
      · exact ⟨rfl, by show (1 : Int) ≤ p; omega, by show (p : Int) < (p + 1 : Nat); omega, rfl, .inr rfl, by show (1 : Int) ≤ 1 + q2; omega, by show (1 : Int) + q2 ≤ 9; omega⟩
  · rw [List.pairwise_append]
    refine ⟨h.asc, ?_, fun x hx y hy => ?_⟩
    · rw [List.pairwise_cons]
      refine ⟨fun y hy => ?_, List.pairwise_singleton _ _⟩
      simp only [List.mem_singleton] at hy; subst hy
      exact .inr ⟨rfl, .inr ⟨rfl, by show (p : Int) < p + 1; omega⟩⟩
    · have h3 := h.ok x hx
      unfold okLg at h3
      simp only [List.mem_cons, List.not_mem_nil, or_false] at hy
      rcases hy with rfl | rfl
      · exact .inl (.inr ⟨h3.1, h3.2.2.1⟩)
      · exact .inl (.inr ⟨h3.1, h3.2.2.1⟩)
  · rw [List.length_append, h.len]; simp only [List.length_cons, List.length_nil]; omega
  · by_cases e : i = p
    · subst e; exact ⟨1 + q1, by simp⟩
    · obtain ⟨w, hw⟩ := h.e1 i h3 (by omega); exact ⟨w, List.mem_append.2 (.inl hw)⟩
  · by_cases e : i = p
    · subst e; exact ⟨1 + q2, by simp⟩
    · obtain ⟨w, hw⟩ := h.e2 i h3 (by omega); exact ⟨w, List.mem_append.2 (.inl hw)⟩
section
variable {p : Nat} {l : List Bond}
theorem Lg.vld (h : Lg p l) (hp : p ≤ 8) : Vld l := by
  refine ⟨by rw [h.len]; omega, fun x hx => ?_, h.asc⟩
  have h1 := h.ok x hx
  unfold okLg at h1
  refine ⟨?_, by omega, by omega⟩
  unfold cplOK refOK
  simp only [Bool.and_eq_true, decide_eq_true_eq]
  omega
theorem Lg.many (h : Lg p l) (hp : 6 ≤ p) : 8 < (refsS l).length := by
  have hr : ∀ i : Nat, 1 ≤ i → i < 6 → (⟨0, i⟩ : Couple) ∈ refsS l ∧ (⟨1, i⟩ : Couple) ∈ refsS l := fun i h1 h2 => by
    obtain ⟨w, hw⟩ := h.e1 i h1 (by omega)
    exact ⟨mem_refsS.2 ⟨_, hw, .inl rfl⟩, mem_refsS.2 ⟨_, hw, .inr rfl⟩⟩
  have hn : ([⟨0, 1⟩, ⟨0, 2⟩, ⟨0, 3⟩, ⟨0, 4⟩, ⟨0, 5⟩, ⟨1, 1⟩, ⟨1, 2⟩, ⟨1, 3⟩, ⟨1, 4⟩, ⟨1, 5⟩] : List Couple).Nodup := by decide
  have := hn.length_le_of_subset (l₂ := refsS l) fun r hr2 => by
    simp only [List.mem_cons, List.not_mem_nil, or_false] at hr2
    rcases hr2 with rfl | rfl | rfl | rfl | rfl | rfl | rfl | rfl | rfl | rfl
    · exact (hr 1 (by omega) (by omega)).1
    · exact (hr 2 (by omega) (by omega)).1
    · exact (hr 3 (by omega) (by omega)).1
    · exact (hr 4 (by omega) (by omega)).1
    · exact (hr 5 (by omega) (by omega)).1
    · exact (hr 1 (by omega) (by omega)).2
    · exact (hr 2 (by omega) (by omega)).2
    · exact (hr 3 (by omega) (by omega)).2
    · exact (hr 4 (by omega) (by omega)).2
    · exact (hr 5 (by omega) (by omega)).2
  simp only [List.length_cons, List.length_nil] at this
  omega
/-- A list of refs within bounds is short. -/
theorem refs_few {R I : Nat} {s : List Couple} (hn : s.Nodup) (h : ∀ r ∈ s, 0 ≤ r.a ∧ r.a < R ∧ 1 ≤ r.b ∧ r.b ≤ I) : s.length ≤ R * I := by
  have := hn.length_le_of_subset (l₂ := (List.range R).flatMap fun a : Nat => (List.range I).map fun b : Nat => (⟨(a : Int), (b : Int) + 1⟩ : Couple)) fun r hr => by
    have h1 := h r hr
    obtain ⟨a, b⟩ := r
    simp only at h1
    refine List.mem_flatMap.2 ⟨a.toNat, List.mem_range.2 (by omega), List.mem_map.2 ⟨(b - 1).toNat, List.mem_range.2 (by omega), ?_⟩⟩
    rw [Int.toNat_of_nonneg (by omega), Int.toNat_of_nonneg (by omega)]
    congr 1; omega
  refine Nat.le_trans this (Nat.le_of_eq ?_)
  rw [List.length_flatMap]
  simp only [List.length_map, List.length_range]
  have key : ∀ L : List Nat, (L.map fun _ => I).sum = L.length * I := by
    intro L
    induction L with
    | nil => simp
    | cons a t ih => rw [List.map_cons, List.sum_cons, ih, List.length_cons, Nat.succ_mul, Nat.add_comm]
  rw [key, List.length_range]
theorem Lg.few (h : Lg p l) (hp : p ≤ 8) : (refsS l).length ≤ 16 := by
  have := refs_few (R := 2) (I := 8) (refsS_nodup l) fun r hr => by
    obtain ⟨x, hx, e⟩ := mem_refsS.1 hr
    have h1 := h.ok x hx
    unfold okLg at h1
    rcases e with rfl | rfl <;> omega
  omega
theorem Dlt.few {R I : Nat} (h : Dlt R I l) : (refsS l).length ≤ R * I := refs_few (refsS_nodup l) fun r hr => by
  obtain ⟨x, hx, e⟩ := mem_refsS.1 hr
  have h1 := h.1 x hx
  unfold okR at h1
  rcases e with rfl | rfl <;> omega
end
/-! ### Decisions that a deck deals -/
def okDc (R I : Nat) (x : Dcs) : Prop := 0 ≤ x.A.a ∧ x.A.a < x.B.a ∧ x.B.a < R ∧ 1 ≤ x.A.b ∧ x.A.b ≤ I ∧ 1 ≤ x.B.b ∧ x.B.b ≤ I ∧ 1 ≤ x.va ∧ x.va ≤ 2 ∧ 1 ≤ x.vb ∧ x.vb ≤ 4
def CurD (r i s k : Nat) (x : Dcs) : Prop := x.A.a < r ∨ x.A.a = r ∧ (x.A.b < i ∨ x.A.b = i ∧ (x.B.a < s ∨ x.B.a = s ∧ x.B.b < k))
def Dd (R I r i s k : Nat) (l : List Dcs) : Prop := (∀ x ∈ l, okDc R I x ∧ CurD r i s k x) ∧ l.Pairwise ltD
structure Dds (R I : Nat) (l : List Dcs) : Prop where
  ok : ∀ i (h : i < l.length), dcsOK l[i]
  asc : ∀ i (h : i + 1 < l.length), cmpD l[i] l[i + 1] < 0
  len : l.length ≤ 4096
theorem Dd.nil (R I r i s k : Nat) : Dd R I r i s k [] := ⟨fun x h => by simp at h, List.Pairwise.nil⟩
theorem Dd.to {R I r i s k r' i' s' k' : Nat} {l : List Dcs} (h : Dd R I r i s k l) (hc : ∀ x, okDc R I x → CurD r i s k x → CurD r' i' s' k' x) : Dd R I r' i' s' k' l :=
  ⟨fun x hx => ⟨(h.1 x hx).1, hc x (h.1 x hx).1 (h.1 x hx).2⟩, h.2⟩
theorem Dd.len {R I r i s k : Nat} {l : List Dcs} (h : Dd R I r i s k l) (hR : R ≤ 4) (hI : I ≤ 4) : l.length ≤ 2048 := by
  have hb : ∀ x ∈ l, okDc R I x := fun x hx => (h.1 x hx).1
  have := asc_len (fun x : Dcs => (x.A.a * 512 + (x.A.b - 1) * 128 + x.B.a * 32 + (x.B.b - 1) * 8 + (x.va - 1) * 4 + (x.vb - 1)).toNat) 2048 l 0 (h.2.imp_of_mem fun {x y} hx hy hxy => by
    have h1 := hb x hx; have h2 := hb y hy
    unfold okDc at h1 h2
    unfold ltD at hxy
    show (x.A.a * 512 + (x.A.b - 1) * 128 + x.B.a * 32 + (x.B.b - 1) * 8 + (x.va - 1) * 4 + (x.vb - 1)).toNat < (y.A.a * 512 + (y.A.b - 1) * 128 + y.B.a * 32 + (y.B.b - 1) * 8 + (y.va - 1) * 4 + (y.vb - 1)).toNat
    omega) (fun x hx => by
    have h1 := hb x hx
    unfold okDc at h1
    show 0 ≤ _ ∧ (x.A.a * 512 + (x.A.b - 1) * 128 + x.B.a * 32 + (x.B.b - 1) * 8 + (x.va - 1) * 4 + (x.vb - 1)).toNat < 2048
    omega)
  simpa using this
theorem Dd.push {R I r i s k : Nat} {l : List Dcs} {x : Dcs} (h : Dd R I r i s k l) (hx : okDc R I x) (h1 : x.A.a = r ∧ x.A.b = i ∧ x.B.a = s ∧ x.B.b = k) : Dd R I r i s (k + 1) (l ++ [x]) := by
  refine ⟨fun y hy => ?_, ?_⟩
  · rcases List.mem_append.1 hy with hy | hy
    · obtain ⟨h3, h4⟩ := h.1 y hy
      refine ⟨h3, ?_⟩
      unfold CurD at *; omega
    · simp only [List.mem_singleton] at hy; subst hy
      exact ⟨hx, by unfold CurD; omega⟩
  · rw [List.pairwise_append]
    refine ⟨h.2, by simp, fun y hy z hz => ?_⟩
    simp only [List.mem_singleton] at hz; subst hz
    obtain ⟨h3, h4⟩ := h.1 y hy
    unfold CurD at h4; unfold ltD
    omega
theorem Dd.push2 {R I r i s k : Nat} {l : List Dcs} {x y : Dcs} (h : Dd R I r i s k l) (hx : okDc R I x) (hy : okDc R I y) (h1 : x.A.a = r ∧ x.A.b = i ∧ x.B.a = s ∧ x.B.b = k) (h2 : y.A = x.A ∧ y.B = x.B ∧ y.va = x.va ∧ x.vb < y.vb) : Dd R I r i s (k + 1) (l ++ [x] ++ [y]) := by
  have h3 := h.push hx h1
  obtain ⟨h2a, h2b, h2c, h2d⟩ := h2
  refine ⟨fun z hz => ?_, ?_⟩
  · rcases List.mem_append.1 hz with hz | hz
    · exact h3.1 z hz
    · simp only [List.mem_singleton] at hz; subst hz
      exact ⟨hy, by unfold CurD; rw [h2a, h2b]; omega⟩
  · rw [List.pairwise_append]
    refine ⟨h3.2, by simp, fun u hu z hz => ?_⟩
    simp only [List.mem_singleton] at hz; subst hz
    unfold ltD
    rw [h2a, h2b]
    rcases List.mem_append.1 hu with hu | hu
    · have h4 := (List.pairwise_append.1 h3.2).2.2 u hu x (by simp)
      unfold ltD at h4
      obtain ⟨h5, h6⟩ := h.1 u hu
      unfold CurD at h6
      omega
    · simp only [List.mem_singleton] at hu; subst hu
      omega
theorem Dd.fin {R I r i s k : Nat} {l : List Dcs} (h : Dd R I r i s k l) (hR : R ≤ 4) (hI : I ≤ 4) : Dds R I l := by
  refine ⟨fun i hi => ?_, fun i hi => ?_, by have := h.len hR hI; omega⟩
  · have h1 := (h.1 _ (List.getElem_mem hi)).1
    unfold okDc at h1
    unfold dcsOK cplOK refOK verOK
    simp only [Bool.and_eq_true, decide_eq_true_eq]
    omega
  · exact cmpD_all.1.2 (List.pairwise_iff_getElem.1 h.2 i (i + 1) (by omega) hi (by omega))
end Go.K

/- Further laws of persons: parts by themselves, the exact way within limits. Plain. -/
set_option linter.unusedVariables false
set_option linter.unusedSimpArgs false
namespace Go.K
open Rep
section
variable {l l' : List Bond} {ds : List Dcs} {zs us ps : List (List Couple)}
/-! ### A part by itself -/
/-! ### All weights times a number, in place -/
def scI (k : Int) (l : List Bond) (i : Nat) : List Bond := (l.take i).map (scB k) ++ l.drop i
theorem scI_len (k : Int) (l : List Bond) (i : Nat) : (scI k l i).length = l.length := by unfold scI; simp; omega
theorem scI_zero (k : Int) (l : List Bond) : scI k l 0 = l := by simp [scI]
theorem scI_all (k : Int) (l : List Bond) : scI k l l.length = scL k l := by simp [scI, scL]
theorem scI_at {k : Int} {l : List Bond} {i : Nat} (h : i < l.length) (h' : i < (scI k l i).length) : (scI k l i)[i] = l[i] := by
  have e : (scI k l i)[i]? = l[i]? := by
    unfold scI
    rw [List.getElem?_append_right (by simp; omega), List.getElem?_drop]
    congr 1; simp; omega
  rw [List.getElem?_eq_getElem h', List.getElem?_eq_getElem h] at e
  exact Option.some.inj e
theorem scI_set {k : Int} {l : List Bond} {i : Nat} (h : i < l.length) : (scI k l i).set i (scB k l[i]) = scI k l (i + 1) := by
  unfold scI
  have h1 : ((l.take i).map (scB k)).length = i := by simp; omega
  rw [List.set_append_right _ _ (by omega), h1, Nat.sub_self, List.drop_eq_getElem_cons h, List.set_cons_zero, List.take_succ_eq_append_getElem h, List.map_append]
  simp
theorem sc_w {k : Int} (hw : ∀ x ∈ l, 1 ≤ x.w ∧ x.w ≤ 9) (hk : 1 ≤ k) (h256 : k ≤ 256) {x : Bond} (hx : x ∈ l) : 1 ≤ x.w * k ∧ x.w * k ≤ 2304 := by
  obtain ⟨h1, h2⟩ := hw x hx
  have a : 1 * k ≤ x.w * k := Int.mul_le_mul_of_nonneg_right h1 (by omega)
  have b : x.w * k ≤ 9 * k := Int.mul_le_mul_of_nonneg_right h2 (by omega)
  omega
end
end Go.K

/- From the row's reading of an argument to what the steps ask. -/
set_option linter.unusedVariables false
namespace Go.K
open Rep
/-- Nobody writes anything that stood at the start. -/
def Cn0 : Nat → Nat := fun _ => 0
theorem lim0 (w : World) : Lim w Cn0 := fun b h => absurd rfl h
theorem Stp.below {w w' : World} (h : Stp [] w Cn0 w' Cn0) : Go.RowKit.Below w.heap.size w w' := h.ext.below (Nat.le_refl _) (fun b hb => by simp at hb)

end Go.K

/- From the row's reading of an argument, of whatever make, to what the steps ask. -/
set_option linter.unusedVariables false
set_option linter.unusedSimpArgs false
namespace Go.K
open Rep

/-- Whatever the row reads at this type reads as a Lean value. -/
def Opens {H : Type} (enc : TypeId × Value → H) (P : Program) (w : World) (base : Nat) (spare : Nat → Bool) (held : Bool) (α : Type) [Rep α] (t : TypeId) : Prop :=
  P.cellsOf t = sz α ∧ ∀ (fuel : Nat) (cs : List Value) (x : DataW H × List MemPlace), DataW.trod enc P w base spare held fuel t cs = some x → ∃ a : α, rep w.heap (Mc Cn0) a cs

section
variable {H : Type} {enc : TypeId × Value → H} {P : Program} {w : World} {base : Nat} {spare : Nat → Bool} {held : Bool} {α β γ : Type} [Rep α] [Rep β] [Rep γ] {t e : TypeId}

theorem opens_int (ht : P.underlying t = some (.int .i64)) (hc : P.cellsOf t = 1) : Opens enc P w base spare held Int t := ⟨hc, fun fuel cs x h => by
  obtain ⟨n, rfl, _⟩ := DataW.trod_int ht h
  exact ⟨n, rfl⟩⟩
theorem opens_slice (ht : P.underlying t = some (.slice e)) (hc : P.cellsOf t = 1) (hsz : 0 < sz α) (he : Opens enc P w base spare held α e) : Opens enc P w base spare held (List α) t := ⟨hc, fun fuel cs x h => by
  rcases Go.Deep.open_slice ht h with ⟨rfl, _⟩ | ⟨a, len, cap, m, n, D, Pl, rfl, hb, hl, hm, hmm, hx, hcell⟩
  · exact ⟨[], none, 0, rfl, Nat.le_refl _, by simp, .inl rfl⟩
  · have hlm : len ≤ m := by rw [hmm]; split <;> omega
    have key : ∀ k, k ≤ len → ∃ xs : List α, xs.length = k ∧ ∀ i (hi : i < xs.length), ∃ cs', w.cells? base (a.add (i * sz α)) (sz α) = some cs' ∧ rep w.heap (Mc Cn0) xs[i] cs' := by
      intro k
      induction k with
      | zero => exact fun _ => ⟨[], rfl, fun i hi => by simp at hi⟩
      | succ k ih =>
        intro hk
        obtain ⟨xs, hxl, hxs⟩ := ih (by omega)
        obtain ⟨cs', h1, h2⟩ := hcell k (by omega)
        obtain ⟨y, hy⟩ := he.2 _ _ _ h2
        rw [he.1] at h1
        refine ⟨xs ++ [y], by simp [hxl], fun i hi => ?_⟩
        by_cases hik : i < xs.length
        · rw [List.getElem_append_left hik]; exact hxs i hik
        · have hik2 : i = k := by simp at hi; omega
          subst hik2
          rw [List.getElem_append_right (by omega)]
          exact ⟨cs', h1, by simpa [hxl] using hy⟩
    obtain ⟨xs, hxl, hxs⟩ := key len (Nat.le_refl _)
    refine ⟨xs, some a, cap, by rw [hxl], by omega, by unfold maxLen at hm; omega, ?_⟩
    by_cases h0 : len = 0
    · left; exact List.length_eq_zero_iff.1 (by omega)
    · right
      have hall : ∀ i (hi : i < xs.length), ∃ cs', cs'.length = sz α ∧ (∀ j (hj : j < cs'.length), w.cell? (a.add (i * sz α + j)) = some cs'[j]) ∧ rep w.heap (Mc Cn0) xs[i] cs' := fun i hi => by
        obtain ⟨cs', h1, h2⟩ := hxs i hi
        obtain ⟨_, h3, h4⟩ := World.cells?_some h1
        refine ⟨cs', h3, fun j hj => ?_, h2⟩
        have h5 := h4 j (by omega)
        rw [Addr.add_add] at h5
        rw [h5]; exact List.getElem?_eq_getElem hj
      obtain ⟨c0, hc0l, hc0, _⟩ := hall 0 (by omega)
      have hfirst := hc0 0 (by omega)
      obtain ⟨b, off, spot⟩ := a
      have hspot : spot = none := by simpa [Addr.add] using World.cell?_spot hfirst
      subst hspot
      refine ⟨b, off, rfl, ?_⟩
      simp only [addr_add] at hall hfirst
      unfold World.cell? at hfirst
      simp only at hfirst
      cases hbk : w.heap[b]? with
      | none => rw [hbk] at hfirst; cases hfirst
      | some ob =>
        cases ob with
        | cells c ty fz =>
          have hget : ∀ i (hi : i < xs.length), ∃ cs', cs'.length = sz α ∧ (∀ j (hj : j < cs'.length), c[off + (i * sz α + j)]? = some cs'[j]) ∧ rep w.heap (Mc Cn0) xs[i] cs' := fun i hi => by
            obtain ⟨cs', h1, h2, h3⟩ := hall i hi
            refine ⟨cs', h1, fun j hj => ?_, h3⟩
            have h4 := h2 j hj
            unfold World.cell? at h4
            simp only [hbk] at h4
            simpa using h4
          refine ⟨fun h => h rfl, c, ty, fz, hbk, ?_, fun i hi => ?_⟩
          · obtain ⟨cs', h1, h2, _⟩ := hget (len - 1) (by omega)
            have h3 := (Array.getElem?_eq_some_iff.1 (h2 (sz α - 1) (by omega))).1
            have h4 : len * sz α = (len - 1) * sz α + sz α := by
              have : len = (len - 1) + 1 := by omega
              rw [this, Nat.succ_mul]; simp
            rw [hxl, h4]; omega
          · obtain ⟨cs', h1, h2, h3⟩ := hget i hi
            have : cellsAt c (off + i * sz α) (sz α) = cs' := by
              apply List.ext_getElem?
              intro r
              simp only [cellsAt, List.getElem?_take, List.getElem?_drop, Array.getElem?_toList]
              by_cases hr : r < sz α
              · rw [if_pos hr, List.getElem?_eq_getElem (by omega), Nat.add_assoc]; exact h2 r (by omega)
              · rw [if_neg hr, List.getElem?_eq_none (by omega)]
            rw [this]; exact h3
        | _ => rw [hbk] at hfirst; cases hfirst⟩

theorem Opens.rv (h : Opens enc P w base spare held α t) (hx : Rep.agg α = false) {fuel : Nat} {v : Value} {x : DataW H × List MemPlace} (ht : DataW.trod enc P w base spare held fuel t [v] = some x) : ∃ a : α, RV w (Mc Cn0) a v := by
  obtain ⟨a, ha⟩ := h.2 _ _ _ ht
  exact ⟨a, rep1_rv ha hx⟩
end
theorem okWide_range {P : Program} {w : World} {r : Reach} {base : Nat} {t : TypeId} {v : Value} {k : IntKind} (ht : P.underlying t = some (.int k)) (h : Value.okWide P w r base t v) : ∃ n, v = .int k n ∧ k.min ≤ n ∧ n ≤ k.max := by
  obtain ⟨n, rfl⟩ := Go.WideShapes.okWide_int ht h
  refine ⟨n, rfl, ?_⟩
  simpa [Value.okWide, ht, Cell.okWide, Cell.ok, IntKind.has] using h
theorem okWide_u8 {P : Program} {w : World} {r : Reach} {base : Nat} {t : TypeId} {v : Value} (ht : P.underlying t = some (.int .u8)) (h : Value.okWide P w r base t v) : ∃ m : Nat, v = .int .u8 (m : Int) ∧ m < 256 := by
  obtain ⟨n, rfl, h1, h2⟩ := okWide_range ht h
  have h3 : (0 : Int) ≤ n := h1
  have h4 : n ≤ 255 := h2
  exact ⟨n.toNat, by rw [Int.toNat_of_nonneg h3], by omega⟩
end Go.K
