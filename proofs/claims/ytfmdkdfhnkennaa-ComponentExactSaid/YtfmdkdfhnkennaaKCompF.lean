/- The plain laws of chapter 30. -/
import Derived.Test.YtfmdkdfhnkennaaKComp3
import Derived.Test.YtfmdkdfhnkennaaKPlan
set_option linter.unusedVariables false
set_option linter.unusedSimpArgs false
namespace Go.K
open Rep

/-! ### Where a ref is -/
def findS (l : List (List Couple)) (c : Couple) : Int := idxOf (fun p => p.any fun x => decide (c = x)) l
theorem getD_at {α : Type} {l : List (List α)} {i : Nat} (h : i < l.length) : l.getD i [] = l[i] := by rw [List.getD_eq_getElem?_getD, List.getElem?_eq_getElem h]; rfl
theorem getD_lt {α : Type} {l : List (List α)} {i : Nat} {r : α} (h : r ∈ l.getD i []) : i < l.length := by
  rcases Nat.lt_or_ge i l.length with h1 | h1
  · exact h1
  · rw [List.getD_eq_getElem?_getD, List.getElem?_eq_none h1] at h; simp at h
theorem any_is {l : List Couple} {c : Couple} : (l.any fun x => decide (c = x)) = true ↔ c ∈ l := by
  rw [List.any_eq_true]
  exact ⟨fun ⟨x, hx, e⟩ => by rw [of_decide_eq_true e]; exact hx, fun h => ⟨c, h, by simp⟩⟩
theorem find_part {l : List Bond} {r : Couple} {i : Nat} (h : r ∈ (partsS l).getD i []) : findS (partsS l) r = i := by
  have hi := getD_lt h
  refine idxOf_at hi (fun j hj => Bool.eq_false_iff.2 fun hp => ?_) ?_
  · have := parts_disj (l := l) (i := j) (by rw [getD_at (show j < (partsS l).length by omega)]; exact any_is.1 hp) h
    omega
  · rw [getD_at hi] at h; exact any_is.2 h
theorem find_same {l : List Bond} {r s : Couple} (hr : r ∈ refsS l) (hs : s ∈ refsS l) : findS (partsS l) r = findS (partsS l) s ↔ rhoS l r = rhoS l s := by
  obtain ⟨i, hi⟩ := parts_cover hr
  obtain ⟨j, hj⟩ := parts_cover hs
  rw [find_part hi, find_part hj]
  obtain ⟨hi1, _, e1⟩ := parts_getD.1 hi
  obtain ⟨hj1, _, e2⟩ := parts_getD.1 hj
  constructor
  · intro e; obtain rfl : i = j := by omega
    exact e1.trans e2.symm
  · intro e; rw [firsts_uniq hi1 hj1 (e1.symm.trans (e.trans e2))]

theorem parts_le (l : List Bond) : (partsS l).length ≤ (refsS l).length := by unfold partsS; rw [groupS_length]; exact (firsts_sub _ _).length_le

/-! ### How many -/
theorem nodup_leL {α : Type} [DecidableEq α] : ∀ {l l' : List α}, l.Nodup → (∀ x ∈ l, x ∈ l') → l.length ≤ l'.length
  | [], _, _, _ => Nat.zero_le _
  | a :: l, l', hn, h => by
    obtain ⟨h1, h2⟩ := List.nodup_cons.1 hn
    have ha := h a (by simp)
    have ih := nodup_leL (l' := l'.erase a) h2 (fun x hx => (List.mem_erase_of_ne (fun e => h1 (by subst e; exact hx))).2 (h x (by simp [hx])))
    rw [List.length_erase_of_mem ha] at ih
    have : 0 < l'.length := List.length_pos_of_mem ha
    simp only [List.length_cons]; omega
theorem firsts_img {α β : Type} [DecidableEq β] {f : α → β} {xs : List α} {t : β} : t ∈ (firstsS f xs).map f ↔ ∃ r ∈ xs, f r = t := by
  rw [List.mem_map]
  constructor
  · rintro ⟨q, hq, e⟩; exact ⟨q, (firsts_sub f xs).subset hq, e⟩
  · rintro ⟨r, hr, e⟩
    obtain ⟨q, hq, e2⟩ := firsts_cover (f := f) hr
    exact ⟨q, hq, e2.trans e⟩
theorem joins_law {bonds fewer : List Bond} {x : Bond} (hx : x ∈ bonds) (hm : ∀ y, y ∈ bonds ↔ y ∈ fewer ∨ y = x) :
    (partsS bonds).length ≤ (partsS fewer).length + 1 ∧ (partsS fewer).length ≤ (partsS bonds).length + 1 := by
  unfold partsS; rw [groupS_length, groupS_length]
  have hk : firstsS (rhoS bonds) (refsS bonds) = firstsS (joinF (rhoS fewer) x.A x.B) (refsS bonds) := by
    rw [← rhoS_snoc]
    exact firsts_congr fun r _ s _ => ⟨rho_ker (fun y hy => by simpa using (hm y).1 hy), rho_ker (fun y hy => (hm y).2 (by simpa using hy))⟩
  rw [hk]
  have hR : ∀ r, r ∈ refsS bonds ↔ r ∈ refsS fewer ∨ r = x.A ∨ r = x.B := fun r => by
    simp only [mem_refsS]
    constructor
    · rintro ⟨y, hy, e⟩
      rcases (hm y).1 hy with h | rfl
      · exact .inl ⟨y, h, e⟩
      · exact .inr e
    · rintro (⟨y, hy, e⟩ | e)
      · exact ⟨y, (hm y).2 (.inl hy), e⟩
      · exact ⟨x, hx, e⟩
  have n1 := firsts_nodup (joinF (rhoS fewer) x.A x.B) (refsS bonds)
  have n2 := firsts_nodup (rhoS fewer) (refsS fewer)
  constructor
  · have := nodup_leL (l' := rhoS fewer x.B :: (firstsS (rhoS fewer) (refsS fewer)).map (rhoS fewer)) n1 (fun t ht => by
      obtain ⟨r, hr, rfl⟩ := firsts_img.1 ht
      rw [List.mem_cons, firsts_img]
      unfold joinF
      split
      · exact .inl rfl
      · rename_i hne
        rcases (hR r).1 hr with h | rfl | rfl
        · exact .inr ⟨r, h, rfl⟩
        · exact absurd rfl hne
        · exact .inl rfl)
    simpa using this
  · have := nodup_leL (l' := rhoS fewer x.A :: (firstsS (joinF (rhoS fewer) x.A x.B) (refsS bonds)).map (joinF (rhoS fewer) x.A x.B)) n2 (fun t ht => by
      obtain ⟨r, hr, rfl⟩ := firsts_img.1 ht
      rw [List.mem_cons, firsts_img]
      by_cases e : rhoS fewer r = rhoS fewer x.A
      · exact .inl e
      · exact .inr ⟨r, (hR r).2 (.inl hr), by unfold joinF; rw [if_neg e]⟩)
    simpa using this

/-! ### What is reached -/
def rch (um : List (Couple × Bool)) (r : Couple) : Bool := (mget um r).getD false
structure WI (l : List Bond) (fr : Couple) (um : List (Couple × Bool)) : Prop where
  val : ∀ r v, mget um r = some v → v = true ∧ r ∈ refsS l ∧ rhoS l r = rhoS l fr
  from_ : mget um fr = some true
def unr (l : List Bond) (um : List (Couple × Bool)) : Nat := ((refsS l).filter fun r => !rch um r).length
theorem WI.start {l : List Bond} {fr : Couple} (h : fr ∈ refsS l) : WI l fr (mput [] fr true) :=
  ⟨fun r v hv => by
    rw [mget_mput] at hv
    split at hv
    · rename_i e; subst e; exact ⟨by simpa using hv.symm, h, rfl⟩
    · simp [mget] at hv, by rw [mget_mput, if_pos rfl]⟩
theorem rch_put (um : List (Couple × Bool)) (a r : Couple) : rch (mput um a true) r = if a = r then true else rch um r := by
  unfold rch; rw [mget_mput]; split <;> rfl
theorem WI.rch {l : List Bond} {fr : Couple} {um : List (Couple × Bool)} (h : WI l fr um) {r : Couple} (hr : rch um r = true) : r ∈ refsS l ∧ rhoS l r = rhoS l fr := by
  unfold K.rch at hr
  cases hm : mget um r with
  | none => rw [hm] at hr; simp at hr
  | some v => exact (h.val r v hm).2
theorem WI.put {l : List Bond} {fr : Couple} {um : List (Couple × Bool)} (h : WI l fr um) {x : Bond} (hx : x ∈ l) (hne : K.rch um x.A ≠ K.rch um x.B) :
    WI l fr (mput (mput um x.A true) x.B true) ∧ unr l (mput (mput um x.A true) x.B true) < unr l um := by
  have hA : x.A ∈ refsS l := mem_refsS.2 ⟨x, hx, .inl rfl⟩
  have hB : x.B ∈ refsS l := mem_refsS.2 ⟨x, hx, .inr rfl⟩
  have he := rho_edge hx
  have hr : rhoS l x.A = rhoS l fr := by
    cases h1 : K.rch um x.A with
    | true => exact (h.rch h1).2
    | false =>
      have : K.rch um x.B = true := by rw [h1] at hne; simpa using hne.symm
      rw [he]; exact (h.rch this).2
  refine ⟨⟨fun r v hv => ?_, ?_⟩, ?_⟩
  · rw [mget_mput] at hv
    split at hv
    · rename_i e; subst e; exact ⟨by simpa using hv.symm, hB, he ▸ hr⟩
    · rw [mget_mput] at hv
      split at hv
      · rename_i e; subst e; exact ⟨by simpa using hv.symm, hA, hr⟩
      · exact h.val r v hv
  · rw [mget_mput]; split
    · rfl
    · rw [mget_mput]; split
      · rfl
      · exact h.from_
  · -- one of both was not reached
    obtain ⟨s, hs, hsr, hsx⟩ : ∃ s, s ∈ refsS l ∧ K.rch um s = false ∧ (s = x.A ∨ s = x.B) := by
      cases h1 : K.rch um x.A with
      | false => exact ⟨x.A, hA, h1, .inl rfl⟩
      | true => exact ⟨x.B, hB, by rw [h1] at hne; simpa using hne.symm, .inr rfl⟩
    unfold unr
    have n1 : ((refsS l).filter fun r => !K.rch (mput (mput um x.A true) x.B true) r).Nodup := (refsS_nodup l).filter _
    have n2 : s ∉ (refsS l).filter fun r => !K.rch (mput (mput um x.A true) x.B true) r := fun hm => by
      have := (List.mem_filter.1 hm).2
      rw [rch_put, rch_put] at this
      rcases hsx with rfl | rfl
      · simp at this
      · simp at this
    have := nodup_leL (l := s :: (refsS l).filter fun r => !K.rch (mput (mput um x.A true) x.B true) r) (l' := (refsS l).filter fun r => !K.rch um r) (List.nodup_cons.2 ⟨n2, n1⟩) (fun r hr => by
      rcases List.mem_cons.1 hr with rfl | hr
      · exact List.mem_filter.2 ⟨hs, by rw [hsr]; rfl⟩
      · obtain ⟨h1, h2⟩ := List.mem_filter.1 hr
        refine List.mem_filter.2 ⟨h1, ?_⟩
        rw [rch_put, rch_put] at h2
        split at h2
        · simp at h2
        · split at h2
          · simp at h2
          · exact h2)
    simp only [List.length_cons] at this; omega
/-- What is closed is all that hangs together. -/
theorem WI.all {l : List Bond} {fr : Couple} {um : List (Couple × Bool)} (h : WI l fr um) (hc : ∀ x ∈ l, K.rch um x.A = K.rch um x.B) {r : Couple} (hr : r ∈ refsS l) : K.rch um r = true ↔ rhoS l r = rhoS l fr := by
  constructor
  · exact fun h1 => (h.rch h1).2
  · intro e
    have h1 := rho_inv (p := K.rch um) hc r
    have h2 := rho_inv (p := K.rch um) hc fr
    have h3 : K.rch um fr = true := by unfold K.rch; rw [h.from_]; rfl
    rw [← h1, e, h2, h3]
theorem WI.count {l : List Bond} {fr : Couple} {um : List (Couple × Bool)} (h : WI l fr um) (hn : (keys um).Nodup) (hc : ∀ x ∈ l, K.rch um x.A = K.rch um x.B) {i : Nat} (hi : fr ∈ (partsS l).getD i []) : ((partsS l).getD i []).length = um.length := by
  have hl : (keys um).length = um.length := by simp [keys]
  rw [← hl]
  obtain ⟨hi1, hfr, e1⟩ := parts_getD.1 hi
  have hp : ((partsS l).getD i []).Nodup := by
    have hl2 : i < (partsS l).length := getD_lt hi
    rw [getD_at hl2]
    have : (partsS l)[i] = (refsS l).filter fun r => decide (rhoS l r = rhoS l (firstsS (rhoS l) (refsS l))[i]) := groupS_get hl2
    rw [this]; exact (refsS_nodup l).filter _
  refine ((List.perm_ext_iff_of_nodup hp hn).2 fun r => ?_).length_eq
  rw [parts_getD, ← mget_isSome]
  constructor
  · rintro ⟨_, hr, e⟩
    have := (h.all hc hr).2 (e.trans e1.symm)
    unfold K.rch at this
    cases hm : mget um r with
    | none => rw [hm] at this; simp at this
    | some v => rfl
  · intro hs
    obtain ⟨v, hv⟩ := Option.isSome_iff_exists.1 hs
    obtain ⟨_, h2, h3⟩ := h.val r v hv
    exact ⟨hi1, h2, h3.trans e1⟩

/-! ### Parts and their bonds -/
theorem splitS_get {l : List Bond} {i : Nat} (h : i < (splitS l).length) : (splitS l)[i] = l.filter fun x => decide (rhoS l x.A = rhoS l ((firstsS (rhoS l) (refsS l))[i]'(by simpa [splitS] using h))) := by simp [splitS]
theorem partsS_get {l : List Bond} {i : Nat} (h : i < (partsS l).length) : (partsS l)[i] = (refsS l).filter fun r => decide (rhoS l r = rhoS l ((firstsS (rhoS l) (refsS l))[i]'(by unfold partsS at h; rwa [groupS_length] at h))) := groupS_get h
theorem split_refs {l : List Bond} {i : Nat} (h : i < (splitS l).length) (h' : i < (partsS l).length) : refsS (splitS l)[i] = (partsS l)[i] := by
  rw [splitS_get, partsS_get]
  refine sorted_ext (refsS_sorted _) ((refsS_sorted l).filter _) fun r => ?_
  rw [mem_refsS, List.mem_filter, mem_refsS, decide_eq_true_eq]
  constructor
  · rintro ⟨x, hx, e⟩
    obtain ⟨hx, h2⟩ := List.mem_filter.1 hx
    refine ⟨⟨x, hx, e⟩, ?_⟩
    have h2 := of_decide_eq_true h2
    rcases e with rfl | rfl
    · exact h2
    · rw [← rho_edge hx]; exact h2
  · rintro ⟨⟨x, hx, e⟩, h2⟩
    refine ⟨x, List.mem_filter.2 ⟨hx, decide_eq_true ?_⟩, e⟩
    rcases e with rfl | rfl
    · exact h2
    · rw [rho_edge hx]; exact h2
theorem split_vld {l : List Bond} (hv : Vld l) {i : Nat} (h : i < (splitS l).length) : Vld (splitS l)[i] := by
  rw [splitS_get]; exact hv.sub List.filter_sublist
theorem part_head {l : List Bond} {i : Nat} (h : i < (partsS l).length) : ∃ h0 : 0 < (partsS l)[i].length, (partsS l)[i][0] = (firstsS (rhoS l) (refsS l))[i]'(by unfold partsS at h; rwa [groupS_length] at h) := by
  have := groupS_head (f := rhoS l) (xs := refsS l) (List.getElem_mem (l := firstsS (rhoS l) (refsS l)) (n := i) (by unfold partsS at h; rwa [groupS_length] at h))
  rw [← partsS_get h] at this
  exact List.getElem?_eq_some_iff.1 this
theorem heads_rise {l : List Bond} {i : Nat} (h0 : 0 < i) (h : i < (partsS l).length) : ∃ (h1 : 0 < ((partsS l)[i - 1]'(by omega)).length) (h2 : 0 < (partsS l)[i].length), ltP ((partsS l)[i - 1]'(by omega))[0] (partsS l)[i][0] := by
  obtain ⟨a1, a2⟩ := part_head (l := l) (i := i - 1) (by omega)
  obtain ⟨b1, b2⟩ := part_head h
  refine ⟨a1, b1, ?_⟩
  rw [a2, b2]
  have hs := (refsS_sorted l).sublist (firsts_sub (rhoS l) (refsS l))
  exact List.pairwise_iff_getElem.1 hs _ _ _ _ (by omega)
theorem parts_sum (l : List Bond) : ((partsS l).map List.length).sum = (refsS l).length := by
  have := group_sum (f := rhoS l) (xs := refsS l) (rhoS l) (firstsS (rhoS l) (refsS l)) (refsS l) (firsts_nodup _ _) (fun y hy => firsts_cover hy)
  rw [← this]
  unfold partsS groupS
  rw [List.map_map]; rfl
theorem split_sum (l : List Bond) : ((splitS l).map List.length).sum = l.length := by
  have := group_sum (f := rhoS l) (xs := refsS l) (fun x : Bond => rhoS l x.A) (firstsS (rhoS l) (refsS l)) l (firsts_nodup _ _) (fun y hy => firsts_cover (mem_refsS.2 ⟨y, hy, .inl rfl⟩))
  rw [← this]
  unfold splitS
  rw [List.map_map]; rfl
def sumLen {α : Type} (l : List (List α)) (k : Nat) : Nat := ((l.take k).map List.length).sum
theorem sumLen_succ {α : Type} {l : List (List α)} {k : Nat} (h : k < l.length) : sumLen l (k + 1) = sumLen l k + l[k].length := by
  unfold sumLen; rw [List.take_succ_eq_append_getElem h, List.map_append, List.sum_append]; simp
theorem sumLen_all {α : Type} (l : List (List α)) : sumLen l l.length = (l.map List.length).sum := by unfold sumLen; rw [List.take_length]
theorem sumLen_le {α : Type} (l : List (List α)) (k : Nat) : sumLen l k ≤ (l.map List.length).sum := by
  unfold sumLen
  conv => rhs; rw [← List.take_append_drop k l, List.map_append, List.sum_append]
  omega

/-! ### Names -/
def mapB (φ : Couple → Couple) (x : Bond) : Bond := ⟨φ x.A, φ x.B, 1⟩
theorem rho_map {φ : Couple → Couple} (hi : ∀ r s, φ r = φ s → r = s) : ∀ (l : List Bond) (ρ ρ' : Couple → Couple), (∀ r, ρ' (φ r) = φ (ρ r)) → ∀ r, rhoF ρ' (l.map (mapB φ)) (φ r) = φ (rhoF ρ l r)
  | [], _, _, h, r => h r
  | x :: l, ρ, ρ', h, r => by
    refine rho_map hi l (joinF ρ x.A x.B) (joinF ρ' (φ x.A) (φ x.B)) (fun s => ?_) r
    unfold joinF
    rw [h, h, h]
    by_cases e : ρ s = ρ x.A
    · rw [if_pos (by rw [e]), if_pos e]
    · rw [if_neg (fun e2 => e (hi _ _ e2)), if_neg e]
theorem refs_map {φ : Couple → Couple} (hm : ∀ r s, ltP r s → ltP (φ r) (φ s)) (l : List Bond) : refsS (l.map (mapB φ)) = (refsS l).map φ := by
  refine sorted_ext (refsS_sorted _) ?_ fun r => ?_
  · rw [List.pairwise_map]; exact (refsS_sorted l).imp fun {x y} h => hm x y h
  · rw [mem_refsS, List.mem_map]
    constructor
    · rintro ⟨x, hx, e⟩
      obtain ⟨y, hy, rfl⟩ := List.mem_map.1 hx
      rcases e with rfl | rfl
      · exact ⟨y.A, mem_refsS.2 ⟨y, hy, .inl rfl⟩, rfl⟩
      · exact ⟨y.B, mem_refsS.2 ⟨y, hy, .inr rfl⟩, rfl⟩
    · rintro ⟨s, hs, rfl⟩
      obtain ⟨y, hy, e⟩ := mem_refsS.1 hs
      refine ⟨mapB φ y, List.mem_map.2 ⟨y, hy, rfl⟩, ?_⟩
      rcases e with rfl | rfl
      · exact .inl rfl
      · exact .inr rfl
theorem groupS_map {α β γ δ : Type} [DecidableEq β] [DecidableEq δ] {f : α → β} {g : γ → δ} {φ : α → γ} (he : ∀ r s, g (φ r) = g (φ s) ↔ f r = f s) (xs : List α) :
    firstsS g (xs.map φ) = (firstsS f xs).map φ ∧ groupS g (xs.map φ) = (groupS f xs).map (List.map φ) := by
  have h1 : firstsS g (xs.map φ) = (firstsS f xs).map φ := by
    induction xs using snoc_ind with
    | h0 => rfl
    | h1 l a ih =>
      rw [List.map_append, List.map_cons, List.map_nil, firstsS_snoc, firstsS_snoc, ih]
      have : ((firstsS f l).map φ).any (fun q => decide (g q = g (φ a))) = (firstsS f l).any (fun q => decide (f q = f a)) := by
        rw [List.any_map]
        congr 1; funext q
        exact decide_eq_decide.2 (he q a)
      rw [this]; split
      · rfl
      · rw [List.map_append]; rfl
  refine ⟨h1, ?_⟩
  unfold groupS
  rw [h1, List.map_map, List.map_map]
  refine List.map_congr_left fun q _ => ?_
  simp only [Function.comp]
  rw [List.filter_map]
  congr 1
  refine List.filter_congr fun r _ => ?_
  simp only [Function.comp]
  exact decide_eq_decide.2 (he r q)
theorem names_law {φ : Couple → Couple} (hm : ∀ r s, ltP r s → ltP (φ r) (φ s)) (l : List Bond) : partsS (l.map (mapB φ)) = (partsS l).map (List.map φ) := by
  have hi : ∀ r s, φ r = φ s → r = s := fun r s e => by
    rcases ltP_tri r s with h | h | h
    · have := hm _ _ h; rw [e] at this; exact absurd this (ltP_irrefl _)
    · exact h
    · have := hm _ _ h; rw [e] at this; exact absurd this (ltP_irrefl _)
  unfold partsS
  rw [refs_map hm]
  have hr : ∀ r, rhoS (l.map (mapB φ)) (φ r) = φ (rhoS l r) := rho_map hi l id id (fun _ => rfl)
  exact (groupS_map (f := rhoS l) (fun r s => by rw [hr, hr]; exact ⟨hi _ _, fun e => by rw [e]⟩) (refsS l)).2
def nameF (m : Nat) (r : Couple) : Couple := ⟨r.a, 3 * r.b + m⟩
theorem nameF_mono (m : Nat) (r s : Couple) (h : ltP r s) : ltP (nameF m r) (nameF m s) := by unfold ltP nameF at *; simp only; omega
theorem names_vld {R I m : Nat} {l : List Bond} (h : Dlt R I l) (hR : R ≤ 4) (hI : I ≤ 7) (hm : m < 256) : Vld (l.map (mapB (nameF m))) := by
  refine ⟨by rw [List.length_map]; exact h.2.2, fun x hx => ?_, ?_⟩
  · obtain ⟨y, hy, rfl⟩ := List.mem_map.1 hx
    have h1 := h.1 y hy
    unfold okR at h1
    refine ⟨?_, by show (1 : Int) ≤ 1; omega, by show (1 : Int) ≤ 1048576; omega⟩
    unfold cplOK refOK mapB nameF
    simp only [Bool.and_eq_true, decide_eq_true_eq]
    omega
  · rw [List.pairwise_map]
    refine h.2.1.imp fun {x y} hxy => ?_
    unfold lt2 at *
    rcases hxy with h1 | ⟨h1, h2⟩
    · exact .inl (nameF_mono m _ _ h1)
    · exact .inr ⟨by show nameF m x.A = nameF m y.A; rw [h1], nameF_mono m _ _ h2⟩
end Go.K
