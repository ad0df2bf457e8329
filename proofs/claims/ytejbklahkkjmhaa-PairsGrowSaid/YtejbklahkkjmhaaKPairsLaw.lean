/- Blocks that are dealt are valid; what agreements say: plain. -/
import Derived.Test.YtejbklahkkjmhaaKPairs
set_option linter.unusedVariables false
set_option linter.unusedSimpArgs false
namespace Go.K
open Rep

/-! ### Valid blocks -/
def IdsOK (ids : List Int) : Prop := ids.Pairwise (· < ·) ∧ ∀ x ∈ ids, 1 ≤ x ∧ x ≤ 1048576
theorem ids_fold : ∀ (ids : List Int) (p : Option Int) (u : Used), IdsOK ids → (∀ x ∈ ids, overB p x = false) → (∀ x ∈ ids, (mget u x).getD false = false) →
    ∃ p' u', ids.foldl idStep (some (p, u)) = some (p', u') ∧ ∀ x, (mget u' x).getD false = true ↔ ((mget u x).getD false = true ∨ x ∈ ids)
  | [], p, u, _, _, _ => ⟨p, u, rfl, fun x => by simp⟩
  | id :: ids, p, u, ⟨h1, h2⟩, ho, hu => by
    have hb : badI p u id = false := by
      have := h2 id (by simp)
      unfold badI
      rw [hu id (by simp), ho id (by simp), decide_eq_false (by omega), decide_eq_false (by omega)]; rfl
    have hstep : idStep (some (p, u)) id = some (some id, mput u id true) := by simp only [idStep, hb]; rfl
    rw [List.pairwise_cons] at h1
    obtain ⟨p', u', h3, h4⟩ := ids_fold ids (some id) (mput u id true) ⟨h1.2, fun x hx => h2 x (by simp [hx])⟩
      (fun x hx => by have := h1.1 x hx; simp only [overB]; exact decide_eq_false (by omega))
      (fun x hx => by
        have := h1.1 x hx
        rw [mget_mput, if_neg (by omega)]
        exact hu x (by simp [hx]))
    refine ⟨p', u', by rw [List.foldl_cons, hstep]; exact h3, fun x => ?_⟩
    rw [h4, mget_mput]
    by_cases hx : id = x
    · subst hx; simp
    · rw [if_neg hx]
      simp only [List.mem_cons]
      constructor
      · rintro (h | h)
        · exact .inl h
        · exact .inr (.inr h)
      · rintro (h | h | h)
        · exact .inl h
        · exact absurd h.symm hx
        · exact .inr h
theorem blocks_fold : ∀ (bs : List Block) (p : Option Int) (u : Used), bs.Pairwise (fun x y => x.hash < y.hash) → (∀ x ∈ bs, overB p x.hash = false) → (∀ x ∈ bs, x.ids ≠ [] ∧ IdsOK x.ids) →
    bs.Pairwise (fun x y => ∀ z ∈ x.ids, z ∉ y.ids) → (∀ x ∈ bs, ∀ z ∈ x.ids, (mget u z).getD false = false) → (bs.foldl bStep (some (p, u))).isSome = true
  | [], _, _, _, _, _, _, _ => rfl
  | b :: bs, p, u, h1, h2, h3, h4, h5 => by
    rw [List.pairwise_cons] at h1 h4
    obtain ⟨hne, hok⟩ := h3 b (by simp)
    obtain ⟨p', u', h6, h7⟩ := ids_fold b.ids none u hok (fun _ _ => rfl) (h5 b (by simp))
    have hb : badB p b = false := by
      unfold badB
      rw [h2 b (by simp), decide_eq_false (by
        intro e
        have : b.ids.length = 0 := by omega
        exact hne (List.length_eq_zero_iff.1 this))]; rfl
    have hstep : bStep (some (p, u)) b = some (some b.hash, u') := by simp only [bStep, hb, h6]; rfl
    rw [List.foldl_cons, hstep]
    refine blocks_fold bs (some b.hash) u' h1.2 (fun x hx => ?_) (fun x hx => h3 x (by simp [hx])) h4.2 (fun x hx z hz => ?_)
    · have := h1.1 x hx
      simp only [overB]; exact decide_eq_false (by omega)
    · rw [Bool.eq_false_iff, ne_eq, h7]
      rintro (h | h)
      · rw [h5 x (by simp [hx]) z hz] at h; cases h
      · exact h4.1 x hx z h hz

/-! ### What the deck deals -/
theorem blkSt_succ (d : Dk) (j k : Nat) : (blkSt d (j + 1)).2 k = if (blkSt d j).1.num 6 = k ∧ k < 4 then (blkSt d j).2 k ++ [(j : Int) + 1] else (blkSt d j).2 k := rfl
theorem blkSt_good (d : Dk) : ∀ j, (∀ k, ((blkSt d j).2 k).Pairwise (· < ·)) ∧ (∀ k, ∀ x ∈ (blkSt d j).2 k, 1 ≤ x ∧ x ≤ j) ∧ (∀ k k', k ≠ k' → ∀ x ∈ (blkSt d j).2 k, x ∉ (blkSt d j).2 k') ∧
    ((blkSt d j).2 0).length + ((blkSt d j).2 1).length + ((blkSt d j).2 2).length + ((blkSt d j).2 3).length ≤ j
  | 0 => ⟨fun k => List.Pairwise.nil, fun k x hx => by simp [blkSt] at hx, fun k k' _ x hx => by simp [blkSt] at hx, by simp [blkSt]⟩
  | j + 1 => by
    obtain ⟨h1, h2, h3, h4⟩ := blkSt_good d j
    refine ⟨fun k => ?_, fun k x hx => ?_, fun k k' hk x hx hx' => ?_, ?_⟩
    · rw [blkSt_succ]
      split
      · rw [List.pairwise_append]
        exact ⟨h1 k, by simp, fun x hx y hy => by
          have := h2 k x hx
          simp only [List.mem_singleton] at hy
          omega⟩
      · exact h1 k
    · rw [blkSt_succ] at hx
      split at hx
      · rcases List.mem_append.1 hx with hx | hx
        · have := h2 k x hx; omega
        · simp only [List.mem_singleton] at hx; omega
      · have := h2 k x hx; omega
    · rw [blkSt_succ] at hx hx'
      by_cases c : (blkSt d j).1.num 6 = k ∧ k < 4 <;> by_cases c' : (blkSt d j).1.num 6 = k' ∧ k' < 4
      · omega
      · rw [if_pos c] at hx; rw [if_neg c'] at hx'
        rcases List.mem_append.1 hx with hx | hx
        · exact h3 k k' hk x hx hx'
        · simp only [List.mem_singleton] at hx; have := h2 k' x hx'; omega
      · rw [if_neg c] at hx; rw [if_pos c'] at hx'
        rcases List.mem_append.1 hx' with hx' | hx'
        · exact h3 k k' hk x hx hx'
        · simp only [List.mem_singleton] at hx'; have := h2 k x hx; omega
      · rw [if_neg c] at hx; rw [if_neg c'] at hx'
        exact h3 k k' hk x hx hx'
    · simp only [blkSt_succ]
      by_cases c0 : (blkSt d j).1.num 6 = (0 : Nat) ∧ 0 < 4
      · rw [if_pos c0, if_neg (by omega), if_neg (by omega), if_neg (by omega)]; simp only [List.length_append, List.length_singleton]; omega
      · rw [if_neg c0]
        by_cases c1 : (blkSt d j).1.num 6 = (1 : Nat) ∧ 1 < 4
        · rw [if_pos c1, if_neg (by omega), if_neg (by omega)]; simp only [List.length_append, List.length_singleton]; omega
        · rw [if_neg c1]
          by_cases c2 : (blkSt d j).1.num 6 = (2 : Nat) ∧ 2 < 4
          · rw [if_pos c2, if_neg (by omega)]; simp only [List.length_append, List.length_singleton]; omega
          · rw [if_neg c2]
            split
            · simp only [List.length_append, List.length_singleton]; omega
            · omega
theorem blocksAll_four (f : Nat → List Int) : blocksAll f = [⟨3, f 0⟩, ⟨5, f 1⟩, ⟨8, f 2⟩, ⟨9223372036854775808, f 3⟩] := rfl
theorem totalN_filter (l : List Block) : totalN (l.filter full) = totalN l := by
  induction l with
  | nil => rfl
  | cons b l ih =>
    have h2 : totalN (b :: l) = b.ids.length + totalN l := by simp [totalN]
    rw [List.filter_cons]
    split
    · have h3 : totalN (b :: l.filter full) = b.ids.length + totalN (l.filter full) := by simp [totalN]
      omega
    · rename_i h
      have : b.ids.length = 0 := by simp [full] at h; simpa using h
      omega
theorem blocksOf_total (d : Dk) (most : Nat) : totalN (blocksOf d most) ≤ most := by
  obtain ⟨_, _, _, h⟩ := blkSt_good d most
  unfold blocksOf
  rw [totalN_filter, blocksAll_four]
  simp only [totalN, List.map_cons, List.map_nil, List.sum_cons, List.sum_nil]
  omega
theorem blocksOf_check (d : Dk) {most : Nat} (h : most ≤ 64) : checkS (blocksOf d most) = 0 := by
  obtain ⟨h1, h2, h3, h4⟩ := blkSt_good d most
  have ht := blocksOf_total d most
  unfold checkS
  rw [if_neg (by rw [total_nat]; omega)]
  rw [if_pos]
  unfold blocksOf
  rw [blocksAll_four]
  refine blocks_fold _ _ _ ?_ (fun _ _ => rfl) ?_ ?_ (fun _ _ _ _ => rfl)
  · refine List.Pairwise.filter _ ?_
    simp
  · intro x hx
    obtain ⟨hx, hf⟩ := List.mem_filter.1 hx
    have hne : x.ids ≠ [] := by
      intro e
      unfold full at hf
      rw [e] at hf; simp at hf
    refine ⟨hne, ?_⟩
    simp only [List.mem_cons, List.not_mem_nil, or_false] at hx
    rcases hx with rfl | rfl | rfl | rfl <;> exact ⟨h1 _, fun z hz => by have := h2 _ z hz; omega⟩
  · refine List.Pairwise.filter _ ?_
    simp only [List.pairwise_cons, List.mem_cons, List.not_mem_nil, or_false, forall_eq_or_imp, forall_eq, implies_true, List.Pairwise.nil, and_true]
    refine ⟨⟨h3 0 1 (by decide), h3 0 2 (by decide), h3 0 3 (by decide)⟩, ⟨h3 1 2 (by decide), h3 1 3 (by decide)⟩, h3 2 3 (by decide), fun _ h => h.elim⟩
theorem listsSt_all (d : Dk) (most : Nat) : ∀ j, ∀ x ∈ (listsSt d most j).2, ∃ d', x = blocksOf d' most
  | 0 => fun x hx => by simp [listsSt] at hx
  | j + 1 => fun x hx => by
    simp only [listsSt] at hx
    rcases List.mem_append.1 hx with hx | hx
    · exact listsSt_all d most j x hx
    · simp only [List.mem_singleton] at hx; exact ⟨_, hx⟩
theorem listsSt_total (d : Dk) {most : Nat} (j : Nat) (x : List Block) (hx : x ∈ (listsSt d most j).2) : total x ≤ most := by
  obtain ⟨d', rfl⟩ := listsSt_all d most j x hx
  rw [total_nat]; have := blocksOf_total d' most; omega
theorem checkF_good : ∀ {a b : List (List Block)}, (∀ x ∈ a, checkS x = 0) → (∀ x ∈ b, checkS x = 0) → checkF a b = 0
  | [], _, _, _ => by simp [checkF]
  | _ :: _, [], _, _ => by simp [checkF]
  | x :: a, y :: b, h1, h2 => by
    have h3 : orL [checkS x, checkS y] = 0 := by simp [orL, h1 x (by simp), h2 y (by simp)]
    simp only [checkF, h3, if_true]
    exact checkF_good (fun z hz => h1 z (by simp [hz])) (fun z hz => h2 z (by simp [hz]))
theorem checkM_good {a b : List (List Block)} {mask n : Nat} (ha : a.length = n) (hb : b.length = n) (hn : n ≤ 8) (h1 : ∀ x ∈ a, checkS x = 0) (h2 : ∀ x ∈ b, checkS x = 0) (hm : mask < 2 ^ n) : checkM a b mask = 0 := by
  unfold checkM
  rw [if_neg (by omega), checkF_good h1 h2]
  simp only
  rw [if_neg (by simp), if_neg]
  rw [ha, show (2 : Int) ^ n = ((2 ^ n : Nat) : Int) from by simp]
  generalize 2 ^ n = z at hm ⊢
  omega
theorem checkM_dealt (d d' : Dk) {most n mask : Nat} (hmost : most ≤ 64) (hn : n ≤ 8) (hm : mask < 2 ^ n) : checkM (listsSt d most n).2 (listsSt d' most n).2 mask = 0 :=
  checkM_good (listsSt_len d most n) (listsSt_len d' most n) hn (fun x hx => by obtain ⟨e, rfl⟩ := listsSt_all d most n x hx; exact blocksOf_check e hmost)
    (fun x hx => by obtain ⟨e, rfl⟩ := listsSt_all d' most n x hx; exact blocksOf_check e hmost) hm

/-! ### What the masks say -/
def bit (m : Agr) (c : Couple) (k : Nat) : Bool := ((mget m c).getD 0).testBit k
theorem fold_bit {γ : Type} {F : Agr → γ → Agr} {q : γ → Bool} {c : Couple} {k : Nat} (h : ∀ m x, bit (F m x) c k = (bit m c k || q x)) : ∀ (l : List γ) (m : Agr), bit (l.foldl F m) c k = (bit m c k || l.any q)
  | [], m => by simp
  | x :: l, m => by rw [List.foldl_cons, fold_bit h l, h, List.any_cons, Bool.or_assoc]
theorem bit_put1 (i : Nat) (m : Agr) (e c : Couple) (k : Nat) : bit (put1 (2 ^ i) m e) c k = (bit m c k || (decide (e = c) && decide (i = k))) := by
  unfold bit put1
  rw [mget_mput]
  by_cases h : e = c
  · subst h
    rw [if_pos rfl, Option.getD_some, Nat.testBit_or, Nat.testBit_two_pow]; simp
  · rw [if_neg h]; simp [h]
theorem any_and {γ : Type} (l : List γ) (q : γ → Bool) (b : Bool) : (l.any fun x => q x && b) = (l.any q && b) := by
  induction l with
  | nil => rfl
  | cons a l ih => rw [List.any_cons, List.any_cons, ih]; cases q a <;> cases b <;> simp
theorem bit_agr3 (i : Nat) (x : Block) (m : Agr) (y : Block) (c : Couple) (k : Nat) :
    bit (agr3 (2 ^ i) x m y) c k = (bit m c k || ((decide (x.hash = y.hash) && x.ids.any fun p => y.ids.any fun q => decide (p = c.a) && decide (q = c.b)) && decide (i = k))) := by
  unfold agr3
  by_cases h : x.hash = y.hash
  · rw [if_pos h, decide_eq_true h, Bool.true_and, ← any_and]
    refine fold_bit (fun m s => ?_) _ _
    rw [← any_and]
    refine fold_bit (F := fun m t => put1 (2 ^ i) m ⟨s, t⟩) (fun m t => ?_) _ _
    rw [bit_put1]
    congr 2
    cases c
    simp
  · rw [if_neg h, decide_eq_false h]; simp
theorem bit_agr1 (i : Nat) (lb : List Block) (la : List Block) (m : Agr) (c : Couple) (k : Nat) :
    bit (la.foldl (agr2 (2 ^ i) lb) m) c k = (bit m c k || (tog la lb c && decide (i = k))) := by
  unfold tog
  rw [← any_and]
  refine fold_bit (fun m x => ?_) _ _
  rw [← any_and]
  exact fold_bit (fun m y => bit_agr3 i x m y c k) _ _
theorem bit_agrI (a b : List (List Block)) (c : Couple) (k : Nat) : ∀ n, bit (agrI a b n) c k = (decide (k < n) && tog (a.getD k []) (b.getD k []) c)
  | 0 => by simp [bit, agrI, mget]
  | n + 1 => by
    show bit ((a.getD n []).foldl (agr2 (2 ^ n) (b.getD n [])) (agrI a b n)) c k = _
    rw [bit_agr1, bit_agrI a b c k n]
    by_cases h : n = k
    · subst h; simp
    · rw [decide_eq_false h]
      have : (k < n + 1) ↔ k < n := by omega
      simp [this]
theorem nodup_agr1 (i : Nat) (lb : List Block) : ∀ (la : List Block) (m : Agr), (keys m).Nodup → (keys (la.foldl (agr2 i lb) m)).Nodup := by
  have fold : ∀ {γ : Type} (F : Agr → γ → Agr), (∀ m x, (keys m).Nodup → (keys (F m x)).Nodup) → ∀ (l : List γ) (m : Agr), (keys m).Nodup → (keys (l.foldl F m)).Nodup := by
    intro γ F h l
    induction l with
    | nil => intro m hm; exact hm
    | cons x l ih => intro m hm; exact ih _ (h m x hm)
  refine fold _ (fun m x hm => fold _ (fun m y hm => ?_) _ _ hm)
  unfold agr3
  split
  · exact fold _ (fun m s hm => fold _ (fun m t hm => nodup_mput hm _ _) _ _ hm) _ _ hm
  · exact hm
theorem agrI_nodup (a b : List (List Block)) : ∀ n, (keys (agrI a b n)).Nodup
  | 0 => List.nodup_nil
  | n + 1 => nodup_agr1 _ _ _ _ (agrI_nodup a b n)

/-! ### The list -/
theorem mem_listS {a b : List (List Block)} {mask : Nat} {c : Couple} (h : c ∈ listS a b mask) : ∃ k, k < a.length ∧ mask.testBit k = true ∧ tog (a.getD k []) (b.getD k []) c = true := by
  have h1 := (sortC_perm _).subset h
  obtain ⟨p, hp, rfl⟩ := List.mem_map.1 h1
  obtain ⟨hp, hh⟩ := List.mem_filter.1 hp
  have hv := mget_mem (agrI_nodup a b a.length) hp
  have hne : p.2 &&& mask ≠ 0 := by simpa [hits] using hh
  obtain ⟨k, hk⟩ := Nat.exists_testBit_of_ne_zero hne
  rw [Nat.testBit_and, Bool.and_eq_true] at hk
  have hb := bit_agrI a b p.1 k a.length
  unfold bit at hb
  rw [hv, Option.getD_some, hk.1] at hb
  have hb' := hb.symm
  rw [Bool.and_eq_true, decide_eq_true_eq] at hb'
  exact ⟨k, hb'.1, hk.2, hb'.2⟩
theorem listS_nodup (a b : List (List Block)) (mask : Nat) : (listS a b mask).Nodup := by
  refine (sortC_perm _).nodup_iff.2 ?_
  have h := agrI_nodup a b a.length
  unfold keys at h
  exact List.Nodup.sublist (List.Sublist.map _ List.filter_sublist) h
theorem listS_strict (a b : List (List Block)) (mask : Nat) {i j : Nat} (hij : i < j) (hj : j < (listS a b mask).length) :
    ¬ ((listS a b mask)[j].a < ((listS a b mask)[i]'(by omega)).a ∨ ((listS a b mask)[i]'(by omega)).a = (listS a b mask)[j].a ∧ (listS a b mask)[j].b ≤ ((listS a b mask)[i]'(by omega)).b) := by
  have h0 : (listS a b mask).Pairwise (fun x y => leC x y = true) := sortC_sorted _
  have h1 := List.pairwise_iff_getElem.1 h0 i j (by omega) hj hij
  have h2 := List.pairwise_iff_getElem.1 (listS_nodup a b mask) i j (by omega) hj hij
  rw [leC_iff] at h1
  have h1' : ((listS a b mask)[i]'(by omega)).a < (listS a b mask)[j].a ∨ ((listS a b mask)[i]'(by omega)).a = (listS a b mask)[j].a ∧ ((listS a b mask)[i]'(by omega)).b ≤ (listS a b mask)[j].b := h1
  intro h
  have e1 : ((listS a b mask)[i]'(by omega)).a = (listS a b mask)[j].a := by omega
  have e2 : ((listS a b mask)[i]'(by omega)).b = (listS a b mask)[j].b := by omega
  apply h2
  generalize (listS a b mask)[i]'(by omega) = x at e1 e2
  generalize (listS a b mask)[j] = y at e1 e2
  cases x; cases y
  simp only at e1 e2
  rw [e1, e2]

/-- Was one found among the first `k` keys? -/
def foundS (a b : List (List Block)) (mk : Nat) (c : Couple) : Nat → Bool
  | 0 => false
  | k + 1 => foundS a b mk c k || (mk.testBit k && tog (a.getD k []) (b.getD k []) c)
theorem foundS_of {a b : List (List Block)} {mk : Nat} {c : Couple} {k : Nat} (h1 : mk.testBit k = true) (h2 : tog (a.getD k []) (b.getD k []) c = true) : ∀ {n}, k < n → foundS a b mk c n = true
  | n + 1, h => by
    unfold foundS
    by_cases e : k = n
    · subst e; rw [h1, h2]; simp
    · rw [foundS_of h1 h2 (show k < n by omega)]; rfl
theorem foundS_list {a b : List (List Block)} {mk : Nat} {i : Nat} (h : i < (listS a b mk).length) : foundS a b mk (listS a b mk)[i] a.length = true := by
  obtain ⟨k, h1, h2, h3⟩ := mem_listS (List.getElem_mem h)
  exact foundS_of h2 h3 h1
theorem bit_test (mk k : Nat) : decide (((mk / 2 ^ k &&& 1 : Nat) : Int) = 1) = mk.testBit k := by
  rw [Nat.testBit, Nat.shiftRight_eq_div_pow, Nat.and_comm 1, Nat.and_one_is_mod]
  rcases Nat.mod_two_eq_zero_or_one (mk / 2 ^ k) with h | h <;> rw [h] <;> decide

/-! ### 'Agreeing' -/
def alls (mask : Nat) (p : Couple × Nat) : Bool := decide ((p.2 &&& mask : Nat) = mask)
def agreeS (a b : List (List Block)) (mask : Nat) : Nat := ((agrI a b a.length).filter (alls mask)).length
theorem agreeS_of {a b : List (List Block)} {mask : Nat} {tk : Agr} (h : (tk ++ []).Perm (agrI a b a.length)) : (tk.filter (alls mask)).length = agreeS a b mask := by
  rw [List.append_nil] at h
  exact (h.filter _).length_eq
end Go.K
