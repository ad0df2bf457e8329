/- Maps that a function is handed to write; groups as they grow. -/
import Derived.Test.YtfmdkdfhnkennaaKComp
set_option linter.unusedVariables false
set_option linter.unusedSimpArgs false
namespace Go.K
open Rep
section
variable {κ β : Type} {kv : κ → Value} {vv : β → Value} {m : List (κ × β)} {w w' w₀ : World} {I : List Nat} {C C' C₀ : Nat → Nat} {i j b : Nat}
theorem OwnM.col2 (h : OwnM w C i b kv vv m) (hi : i ≠ 0) : OwnM w (K.col2 C i) 2 b kv vv m := ⟨by unfold K.col2; rw [if_neg (by rw [h.1]; exact hi), if_pos h.1], h.2⟩
theorem OwnM.outM (h : OwnM w' C' j b kv vv m) (hb : C₀ b = i) : OwnM w' C₀ i b kv vv m := ⟨hb, h.2⟩
theorem OwnM.stay [DecidableEq κ] (h : OwnM w C j b kv vv m) (hS : Ext (fun b => C b ∈ I) w w') (hj : j ∉ I) : OwnM w' C j b kv vv m := h.st (I := I) ⟨hS, fun _ _ => rfl⟩ hj
/-- A map of the function's own, handed out to be written. -/
theorem OwnM.give {D : Nat → Nat} (h : OwnM w' C' j b kv vv m) (hs : Stp I w₀ D w' C') (hF : Lim w₀ C₀) (hj : ∀ b, b < w₀.heap.size → D b ≠ j) (i : Nat) :
    ∃ C1, (∀ b, b < w₀.heap.size → C1 b = C₀ b) ∧ OwnM w' C1 i b kv vv m ∧ Lim w' C1 := by
  obtain ⟨hc, es, clock, hb, hm⟩ := h
  have hge : w₀.heap.size ≤ b := by
    rcases Nat.lt_or_ge b w₀.heap.size with h1 | h1
    · exact absurd (by rw [← hs.col b h1]; exact hc) (hj b h1)
    · exact h1
  refine ⟨setC C₀ b i, fun c hc => by unfold setC; rw [if_neg (by omega)], ⟨by simp [setC], es, clock, hb, hm⟩, fun c hc => ?_⟩
  unfold setC at hc
  split at hc
  · rename_i e; rw [e]; exact lt_of_at hb
  · exact Nat.lt_of_lt_of_le (hF c hc) hs.size
end
theorem Frst.idem {u : List (Couple × Couple)} {ρ : Couple → Couple} {d : Couple → Nat} (h : Frst u ρ d) {r : Couple} (hr : mget u r = some r) : ρ r = r := (h r r hr).2.2.2 rfl

/-- The number of the group of a root. -/
def AtIs (m : List (Couple × Nat)) (ts : List Couple) : Prop := ∀ t i, mget m t = some i ↔ ts[i]? = some t
theorem AtIs.nil : AtIs [] [] := fun t i => by simp [mget]
theorem AtIs.new {m : List (Couple × Nat)} {ts : List Couple} (h : AtIs m ts) {t : Couple} (hn : mget m t = none) : AtIs (mput m t ts.length) (ts ++ [t]) := fun s i => by
  rw [mget_mput]
  split
  · rename_i e; subst e
    constructor
    · intro hi; obtain rfl : ts.length = i := by simpa using hi
      simp
    · intro hi
      rw [List.getElem?_append] at hi
      split at hi
      · have := (h t i).2 hi; rw [hn] at this; cases this
      · rename_i hlt
        have : i - ts.length = 0 := by
          rcases Nat.lt_or_ge (i - ts.length) 1 with h1 | h1
          · omega
          · rw [List.getElem?_eq_none (by simpa using h1)] at hi; cases hi
        simp; omega
  · rename_i e
    rw [h s i, List.getElem?_append]
    split
    · exact Iff.rfl
    · rename_i hlt
      rw [List.getElem?_eq_none (by omega)]
      constructor
      · intro h; cases h
      · intro h3
        exfalso
        rcases Nat.lt_or_ge (i - ts.length) 1 with h1 | h1
        · have : i - ts.length = 0 := by omega
          rw [this] at h3; simp at h3; exact e h3
        · rw [List.getElem?_eq_none (by simpa using h1)] at h3; cases h3
theorem AtIs.lt {m : List (Couple × Nat)} {ts : List Couple} (h : AtIs m ts) {t : Couple} {i : Nat} (hi : mget m t = some i) : ∃ hl : i < ts.length, ts[i] = t := List.getElem?_eq_some_iff.1 ((h t i).1 hi)
theorem AtIs.none {m : List (Couple × Nat)} {ts : List Couple} (h : AtIs m ts) {t : Couple} (hn : mget m t = none) : t ∉ ts := fun hm => by
  obtain ⟨i, hi, e⟩ := List.mem_iff_getElem.1 hm
  have := (h t i).2 (by rw [List.getElem?_eq_getElem hi, e])
  rw [hn] at this; cases this

/-! ### Lists of lists that grow -/
theorem big_ge {n : Nat} : ∀ c ∈ ([2, 3, 4, 5, 6, 7, 8, 9] ++ List.range' 10 n : List Nat), 2 ≤ c := by
  intro c hc
  simp only [List.mem_append, List.mem_cons, List.not_mem_nil, or_false, List.mem_range'_1] at hc
  omega

def updV (f : Nat → Value) (k : Nat) (y : Value) : Nat → Value := fun x => if x = k then y else f x
def svsF (vf : Nat → Value) (n : Nat) : List Sv := (List.range n).map fun i => ⟨vf i⟩
theorem svsF_len (vf : Nat → Value) (n : Nat) : (svsF vf n).length = n := by simp [svsF]
theorem svsF_get {vf : Nat → Value} {n i : Nat} (h : i < (svsF vf n).length) : (svsF vf n)[i].v = vf i := by simp [svsF]
theorem svsF_set {vf : Nat → Value} {n i : Nat} (y : Value) : (svsF vf n).set i ⟨y⟩ = svsF (updV vf i y) n := by
  apply List.ext_getElem?
  intro j
  rw [List.getElem?_set]
  simp only [svsF_len]
  by_cases hj : j < n
  · have e1 : (svsF vf n)[j]? = some ⟨vf j⟩ := by simp [svsF, hj]
    have e2 : (svsF (updV vf i y) n)[j]? = some ⟨updV vf i y j⟩ := by simp [svsF, hj]
    rw [e1, e2]
    by_cases h : i = j
    · subst h; simp [updV, hj]
    · rw [if_neg h]; simp [updV, Ne.symm h]
  · have e1 : (svsF vf n)[j]? = none := by simp [svsF]; omega
    have e2 : (svsF (updV vf i y) n)[j]? = none := by simp [svsF]; omega
    rw [e1, e2]
    split
    · rw [if_neg (by omega)]
    · rfl
theorem svsF_snoc {vf : Nat → Value} {n : Nat} (y : Value) : svsF vf n ++ [⟨y⟩] = svsF (updV vf n y) (n + 1) := by
  unfold svsF
  rw [List.range_succ, List.map_append]
  congr 1
  · refine List.map_congr_left fun i hi => ?_
    have := List.mem_range.1 hi
    simp only [updV]; rw [if_neg (by omega)]
  · simp [updV]
theorem svsF_rep (n : Nat) (y : Value) : List.replicate n (⟨y⟩ : Sv) = svsF (fun _ => y) n := by
  unfold svsF
  apply List.ext_getElem
  · simp
  · intro i h1 h2; simp
section
variable {α β : Type} [DecidableEq β] {f : α → β} {xs : List α} {r : α} {i0 : Nat}
theorem groupS_stepO (hi : i0 < (firstsS f xs).length) (e : f (firstsS f xs)[i0] = f r) :
    firstsS f (xs ++ [r]) = firstsS f xs ∧ ∀ i, (groupS f (xs ++ [r])).getD i [] = if i = i0 then (groupS f xs).getD i0 [] ++ [r] else (groupS f xs).getD i [] := by
  obtain ⟨h1, h2⟩ := groupS_old hi e
  refine ⟨h1, fun i => ?_⟩
  rw [h2]
  simp only [List.getD_eq_getElem?_getD, List.getElem?_modify]
  by_cases h : i = i0
  · subst h
    have : i < (groupS f xs).length := by rw [groupS_length]; exact hi
    simp [this]
  · rw [if_neg h]
    have : ¬ i0 = i := fun e => h e.symm
    simp [this]
theorem groupS_stepN (h : ∀ q ∈ firstsS f xs, f q ≠ f r) (h0 : i0 = (firstsS f xs).length) :
    firstsS f (xs ++ [r]) = firstsS f xs ++ [r] ∧ ∀ i, (groupS f (xs ++ [r])).getD i [] = if i = i0 then (groupS f xs).getD i0 [] ++ [r] else (groupS f xs).getD i [] := by
  obtain ⟨h1, h2⟩ := groupS_new h
  refine ⟨h1, fun i => ?_⟩
  subst h0
  rw [h2, ← groupS_length]
  simp only [List.getD_eq_getElem?_getD, List.getElem?_append]
  by_cases h : i = (groupS f xs).length
  · subst h; simp
  · rw [if_neg h]
    by_cases h3 : i < (groupS f xs).length
    · rw [if_pos h3]
    · rw [if_neg h3, List.getElem?_eq_none (by simp; omega), List.getElem?_eq_none (by omega)]
theorem getD_group_len (f : α → β) (xs : List α) (i : Nat) {n : Nat} (h : xs.length ≤ n) : ((groupS f xs).getD i []).length ≤ n := by
  rw [List.getD_eq_getElem?_getD]
  by_cases hi : i < (groupS f xs).length
  · rw [List.getElem?_eq_getElem hi, groupS_get]; exact Nat.le_trans (List.length_filter_le _ _) h
  · rw [List.getElem?_eq_none (by omega)]; simp
theorem groupS_none {i : Nat} (h : (firstsS f xs).length ≤ i) : (groupS f xs).getD i [] = [] := by
  rw [List.getD_eq_getElem?_getD, List.getElem?_eq_none (by rw [groupS_length]; exact h)]; rfl
end
/-- What was built as a list of lists is read. -/
theorem rv_lists {α : Type} [Rep α] {w : World} {M : Nat → Prop} {vf : Nat → Value} {ls : List (List α)} {v : Value} (h : RV w M (svsF vf ls.length) v) (he : ∀ i, i < ls.length → RV w M (ls.getD i []) (vf i)) : RV w M ls v :=
  RV.svs h rfl (by rw [svsF_len]) fun i h1 h2 => by
    rw [svsF_get]
    have := he i h1
    rwa [List.getD_eq_getElem?_getD, List.getElem?_eq_getElem h1] at this

/-! ### Which part -/
def Ix (um : List (Couple × Nat)) (P : List (List Couple)) (k j : Nat) : Prop := ∀ i r, (i < k ∧ r ∈ P.getD i []) ∨ (i = k ∧ r ∈ (P.getD k []).take j) → mget um r = some i
theorem Ix.nil (P : List (List Couple)) : Ix [] P 0 0 := fun i r h => by
  rcases h with ⟨h, _⟩ | ⟨_, h⟩
  · omega
  · simp at h
theorem Ix.next {um : List (Couple × Nat)} {P : List (List Couple)} {k j : Nat} (h : Ix um P k j) (hj : (P.getD k []).length ≤ j) : Ix um P (k + 1) 0 := fun i r hi => by
  rcases hi with ⟨h1, h2⟩ | ⟨_, h2⟩
  · by_cases e : i = k
    · subst e; exact h i r (.inr ⟨rfl, by rw [List.take_of_length_le hj]; exact h2⟩)
    · exact h i r (.inl ⟨by omega, h2⟩)
  · simp at h2
theorem parts_getD {l : List Bond} {i : Nat} {r : Couple} : r ∈ (partsS l).getD i [] ↔ ∃ hi : i < (firstsS (rhoS l) (refsS l)).length, r ∈ refsS l ∧ rhoS l r = rhoS l (firstsS (rhoS l) (refsS l))[i] := by
  rw [List.getD_eq_getElem?_getD]
  by_cases hi : i < (partsS l).length
  · rw [List.getElem?_eq_getElem hi]
    have hi2 : i < (firstsS (rhoS l) (refsS l)).length := by unfold partsS at hi; rwa [groupS_length] at hi
    have : (partsS l)[i] = (refsS l).filter fun r => decide (rhoS l r = rhoS l (firstsS (rhoS l) (refsS l))[i]) := groupS_get hi
    rw [Option.getD_some, this, List.mem_filter, decide_eq_true_eq]
    exact ⟨fun h => ⟨hi2, h⟩, fun ⟨_, h⟩ => h⟩
  · rw [List.getElem?_eq_none (by omega)]
    simp only [Option.getD_none, List.not_mem_nil, false_iff]
    rintro ⟨h, _⟩
    exact hi (by unfold partsS; rwa [groupS_length])
theorem firsts_uniq {α β : Type} [DecidableEq β] {f : α → β} {xs : List α} {i j : Nat} (hi : i < (firstsS f xs).length) (hj : j < (firstsS f xs).length) (e : f (firstsS f xs)[i] = f (firstsS f xs)[j]) : i = j := by
  have hn := List.pairwise_iff_getElem.1 (firsts_nodup f xs)
  rcases Nat.lt_trichotomy i j with h3 | h3 | h3
  · exact absurd (by rw [List.getElem_map, List.getElem_map, e]) (hn i j (by simpa using hi) (by simpa using hj) h3)
  · exact h3
  · exact absurd (by rw [List.getElem_map, List.getElem_map, e]) (hn j i (by simpa using hj) (by simpa using hi) h3)
theorem parts_disj {l : List Bond} {i j : Nat} {r : Couple} (h : r ∈ (partsS l).getD i []) (h' : r ∈ (partsS l).getD j []) : i = j := by
  obtain ⟨hi, _, h1⟩ := parts_getD.1 h
  obtain ⟨hj, _, h2⟩ := parts_getD.1 h'
  exact firsts_uniq hi hj (h1.symm.trans h2)
theorem Ix.put {um : List (Couple × Nat)} {l : List Bond} {k j : Nat} (h : Ix um (partsS l) k j) (hk : k < (partsS l).length) (hj : j < (partsS l)[k].length) : Ix (mput um (partsS l)[k][j] k) (partsS l) k (j + 1) := fun i r hi => by
  have hg : (partsS l).getD k [] = (partsS l)[k] := by rw [List.getD_eq_getElem?_getD, List.getElem?_eq_getElem hk]; rfl
  rw [mget_mput]
  split
  · rename_i e; subst e
    have hm : (partsS l)[k][j] ∈ (partsS l).getD k [] := by rw [hg]; exact List.getElem_mem hj
    rcases hi with ⟨h1, h2⟩ | ⟨h1, _⟩
    · exact absurd (parts_disj h2 hm) (by omega)
    · rw [h1]
  · rename_i e
    refine h i r ?_
    rcases hi with hi | ⟨h1, h2⟩
    · exact .inl hi
    · refine .inr ⟨h1, ?_⟩
      rw [hg] at h2 ⊢
      rw [List.take_succ_eq_append_getElem hj] at h2
      rcases List.mem_append.1 h2 with h2 | h2
      · exact h2
      · simp only [List.mem_singleton] at h2; exact absurd h2.symm e
theorem parts_cover {l : List Bond} {r : Couple} (h : r ∈ refsS l) : ∃ i, r ∈ (partsS l).getD i [] := by
  obtain ⟨q, hq, e⟩ := firsts_cover (f := rhoS l) h
  obtain ⟨i, hi, rfl⟩ := List.mem_iff_getElem.1 hq
  exact ⟨i, parts_getD.2 ⟨hi, h, e.symm⟩⟩
def splitK (l : List Bond) (k : Nat) : List (List Bond) := (firstsS (rhoS l) (refsS l)).map fun q => (l.take k).filter fun x => decide (rhoS l x.A = rhoS l q)
theorem splitK_len (l : List Bond) (k : Nat) : (splitK l k).length = (partsS l).length := by simp [splitK, partsS, groupS]
theorem splitK_all (l : List Bond) : splitK l l.length = splitS l := by unfold splitK splitS; rw [List.take_length]
theorem splitK_getD {l : List Bond} {k i : Nat} (hi : i < (firstsS (rhoS l) (refsS l)).length) : (splitK l k).getD i [] = (l.take k).filter fun x => decide (rhoS l x.A = rhoS l (firstsS (rhoS l) (refsS l))[i]) := by
  rw [List.getD_eq_getElem?_getD, List.getElem?_eq_getElem (by simpa [splitK] using hi)]; simp [splitK]
theorem splitK_zero (l : List Bond) (i : Nat) : (splitK l 0).getD i [] = [] := by
  rw [List.getD_eq_getElem?_getD]; unfold splitK
  by_cases hi : i < (firstsS (rhoS l) (refsS l)).length
  · rw [List.getElem?_eq_getElem (by simpa using hi)]; simp
  · rw [List.getElem?_eq_none (by simp; omega)]; rfl
theorem splitK_glen (l : List Bond) (k i : Nat) : ((splitK l k).getD i []).length ≤ l.length := by
  by_cases hi : i < (firstsS (rhoS l) (refsS l)).length
  · rw [splitK_getD hi]; exact Nat.le_trans (List.length_filter_le _ _) (by rw [List.length_take]; omega)
  · rw [List.getD_eq_getElem?_getD, List.getElem?_eq_none (by simp [splitK]; omega)]; simp
theorem splitK_step {l : List Bond} {k i0 i : Nat} (hk : k < l.length) (h0 : l[k].A ∈ (partsS l).getD i0 []) (hi : i < (partsS l).length) :
    (splitK l (k + 1)).getD i [] = if i = i0 then (splitK l k).getD i0 [] ++ [l[k]] else (splitK l k).getD i [] := by
  have hi2 : i < (firstsS (rhoS l) (refsS l)).length := by unfold partsS at hi; rwa [groupS_length] at hi
  obtain ⟨hf0, _, e⟩ := parts_getD.1 h0
  rw [splitK_getD hi2, List.take_succ_eq_append_getElem hk, List.filter_append]
  by_cases h : i = i0
  · subst h; rw [if_pos rfl, splitK_getD hi2]; simp [e]
  · rw [if_neg h, splitK_getD hi2]
    have : ¬ rhoS l l[k].A = rhoS l (firstsS (rhoS l) (refsS l))[i] := fun e2 => h (firsts_uniq hi2 hf0 (e2.symm.trans e))
    simp [this]
end Go.K
