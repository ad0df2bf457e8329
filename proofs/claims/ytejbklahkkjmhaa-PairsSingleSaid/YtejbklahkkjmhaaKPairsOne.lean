/- One block key: all ways of counting say the same: plain. -/
import Derived.Test.YtejbklahkkjmhaaKPairsLaw
set_option linter.unusedVariables false
set_option linter.unusedSimpArgs false
namespace Go.K
open Rep

def w2 (x y : Block) : Nat := if x.hash = y.hash then x.ids.length * y.ids.length else 0
theorem foldl_add {γ : Type} (f : Nat → γ → Nat) (g : γ → Nat) (h : ∀ n x, f n x = n + g x) : ∀ (l : List γ) (n : Nat), l.foldl f n = n + (l.map g).sum
  | [], n => by simp
  | x :: l, n => by rw [List.foldl_cons, foldl_add f g h l, h, List.map_cons, List.sum_cons, Nat.add_assoc]
theorem cnt3_add (x : Block) (n : Nat) (y : Block) : cnt3 x n y = n + w2 x y := by unfold cnt3 w2; split <;> omega
theorem cnt2_add (lb : List Block) (n : Nat) (x : Block) : cnt2 lb n x = n + (lb.map (w2 x)).sum := foldl_add _ _ (cnt3_add x) lb n
theorem countS_sum (la lb : List Block) : countS la lb = (la.map fun x => (lb.map (w2 x)).sum).sum := by
  have h := foldl_add _ _ (cnt2_add lb) la 0
  rw [Nat.zero_add] at h; exact h
theorem sum_zero {γ : Type} (l : List γ) : (l.map fun _ => 0).sum = 0 := by induction l <;> simp_all
theorem sum_add {γ : Type} (f g : γ → Nat) (l : List γ) : (l.map fun x => f x + g x).sum = (l.map f).sum + (l.map g).sum := by
  induction l with
  | nil => rfl
  | cons a l ih => simp only [List.map_cons, List.sum_cons, ih]; omega
theorem sum_comm {γ δ : Type} (f : γ → δ → Nat) : ∀ (l : List γ) (l' : List δ), (l.map fun x => (l'.map (f x)).sum).sum = (l'.map fun y => (l.map fun x => f x y).sum).sum
  | [], l' => by simp [sum_zero]
  | x :: l, l' => by
    simp only [List.map_cons, List.sum_cons]
    rw [sum_comm f l l', ← sum_add]
theorem w2_comm (x y : Block) : w2 x y = w2 y x := by
  unfold w2
  by_cases h : x.hash = y.hash
  · rw [if_pos h, if_pos h.symm, Nat.mul_comm]
  · rw [if_neg h, if_neg (fun e => h e.symm)]
theorem countS_comm (la lb : List Block) : countS la lb = countS lb la := by
  rw [countS_sum, countS_sum, sum_comm]
  congr 1
  apply List.map_congr_left
  intro y _
  congr 1
  apply List.map_congr_left
  intro x _
  exact w2_comm x y

/-! The couples, one by one -/
def cp4 (x y : Block) : List Couple := if x.hash = y.hash then x.ids.flatMap fun s => y.ids.map fun t => (⟨s, t⟩ : Couple) else []
def cps (la lb : List Block) : List Couple := la.flatMap fun x => lb.flatMap fun y => cp4 x y
theorem cp4_len (x y : Block) : (cp4 x y).length = w2 x y := by
  unfold cp4 w2
  split
  · rw [List.length_flatMap]
    simp only [List.length_map]
    generalize y.ids.length = k
    generalize x.ids = l
    induction l with
    | nil => simp
    | cons a l ih => simp only [List.map_cons, List.sum_cons, List.length_cons, ih, Nat.succ_mul]; omega
  · rfl
theorem cps_len (la lb : List Block) : (cps la lb).length = countS la lb := by
  unfold cps
  rw [countS_sum, List.length_flatMap]
  congr 1
  apply List.map_congr_left
  intro x _
  rw [List.length_flatMap]
  congr 1
  apply List.map_congr_left
  intro y _
  exact cp4_len x y
theorem foldl_flatMap' {γ δ ε : Type} (f : ε → δ → ε) (g : γ → List δ) : ∀ (l : List γ) (e : ε), (l.flatMap g).foldl f e = l.foldl (fun e x => (g x).foldl f e) e
  | [], e => rfl
  | x :: l, e => by rw [List.flatMap_cons, List.foldl_append, List.foldl_cons, foldl_flatMap' f g l]
theorem agr1_cps (bit : Nat) (la lb : List Block) (m : Agr) : la.foldl (agr2 bit lb) m = (cps la lb).foldl (put1 bit) m := by
  unfold cps
  rw [foldl_flatMap']
  congr 1
  funext m x
  rw [foldl_flatMap']
  unfold agr2
  congr 1
  funext m y
  unfold agr3 cp4
  split
  · rw [foldl_flatMap']
    congr 1
    funext m s
    rw [List.foldl_map]; rfl
  · rfl
theorem put1_new (bit : Nat) {m : Agr} {c : Couple} (h : c ∉ keys m) : put1 bit m c = m ++ [(c, bit)] := by
  unfold put1
  have h1 : mget m c = none := by
    cases hg : mget m c with
    | none => rfl
    | some u => exact absurd ((mget_isSome m c).1 (by rw [hg]; rfl)) h
  have h2 : (keys m).findIdx? (fun x => decide (x = c)) = none := by
    rw [List.findIdx?_eq_none_iff]
    intro x hx
    exact decide_eq_false (fun e => h (e ▸ hx))
  rw [h1, mput_none h2]; simp
theorem fold_new (bit : Nat) : ∀ (l : List Couple) (m : Agr), l.Nodup → (∀ c ∈ l, c ∉ keys m) → l.foldl (put1 bit) m = m ++ l.map fun c => (c, bit)
  | [], m, _, _ => by simp
  | c :: l, m, h, hd => by
    rw [List.nodup_cons] at h
    rw [List.foldl_cons, put1_new bit (hd c (by simp)), fold_new bit l _ h.2 (fun e he hk => by
      simp only [keys, List.map_append, List.map_cons, List.map_nil, List.mem_append, List.mem_singleton] at hk
      rcases hk with hk | hk
      · exact hd e (by simp [he]) hk
      · exact h.1 (hk ▸ he))]
    simp

/-- No number occurs twice. -/
def IdsOnce (l : List Block) : Prop := (l.flatMap (·.ids)).Nodup
theorem cps_nodup {la lb : List Block} (ha : IdsOnce la) (hb : IdsOnce lb) : (cps la lb).Nodup := by
  unfold IdsOnce at ha hb
  unfold List.Nodup at *
  rw [List.pairwise_flatMap] at ha hb
  unfold cps
  rw [List.pairwise_flatMap]
  have mem4 : ∀ {x y : Block} {c : Couple}, c ∈ cp4 x y → c.a ∈ x.ids ∧ c.b ∈ y.ids := by
    intro x y c hc
    unfold cp4 at hc
    split at hc
    · simp only [List.mem_flatMap, List.mem_map] at hc
      obtain ⟨s, hs, t, ht, rfl⟩ := hc
      exact ⟨hs, ht⟩
    · cases hc
  refine ⟨fun x hx => ?_, ha.2.imp fun {x x'} hxx c hc c' hc' e => ?_⟩
  · rw [List.pairwise_flatMap]
    refine ⟨fun y hy => ?_, hb.2.imp fun {y y'} hyy c hc c' hc' e => ?_⟩
    · unfold cp4
      split
      · rw [List.pairwise_flatMap]
        refine ⟨fun s _ => ?_, (ha.1 x hx).imp fun {s s'} hs c hc c' hc' e => ?_⟩
        · rw [List.pairwise_map]
          exact (hb.1 y hy).imp fun {t t'} ht e => ht (by simpa using e)
        · simp only [List.mem_map] at hc hc'
          obtain ⟨t, _, rfl⟩ := hc
          obtain ⟨t', _, rfl⟩ := hc'
          simp only [Couple.mk.injEq] at e
          exact hs e.1
      · exact List.Pairwise.nil
    · subst e; exact hyy _ (mem4 hc).2 _ (mem4 hc').2 rfl
  · subst e
    simp only [List.mem_flatMap] at hc hc'
    obtain ⟨y, _, hc⟩ := hc
    obtain ⟨y', _, hc'⟩ := hc'
    exact hxx _ (mem4 hc).1 _ (mem4 hc').1 rfl
theorem agr_one {la lb : List Block} (ha : IdsOnce la) (hb : IdsOnce lb) : agrI [la] [lb] 1 = (cps la lb).map fun c => (c, 1) := by
  have h := fold_new 1 (cps la lb) [] (cps_nodup ha hb) (fun c _ h => by simp [keys] at h)
  have h2 : agrI [la] [lb] 1 = la.foldl (agr2 1 lb) [] := rfl
  rw [h2, agr1_cps, h, List.nil_append]
theorem agreeS_one {la lb : List Block} (ha : IdsOnce la) (hb : IdsOnce lb) : agreeS [la] [lb] 1 = countS la lb := by
  unfold agreeS
  show ((agrI [la] [lb] 1).filter (alls 1)).length = _
  rw [agr_one ha hb, List.filter_eq_self.2 (fun p hp => by
    obtain ⟨c, _, rfl⟩ := List.mem_map.1 hp
    show decide ((1 &&& 1 : Nat) = 1) = true
    decide), List.length_map, cps_len]
theorem listS_one {la lb : List Block} (ha : IdsOnce la) (hb : IdsOnce lb) : (listS [la] [lb] 1).length = countS la lb := by
  unfold listS
  rw [(sortC_perm _).length_eq, List.length_map]
  show ((agrI [la] [lb] 1).filter (hits 1)).length = _
  rw [agr_one ha hb, List.filter_eq_self.2 (fun p hp => by
    obtain ⟨c, _, rfl⟩ := List.mem_map.1 hp
    show decide ((1 &&& 1 : Nat) ≠ 0) = true
    decide), List.length_map, cps_len]
theorem blocksOf_once (d : Dk) (most : Nat) : IdsOnce (blocksOf d most) := by
  obtain ⟨h1, h2, h3, h4⟩ := blkSt_good d most
  unfold IdsOnce List.Nodup
  rw [List.pairwise_flatMap]
  unfold blocksOf
  rw [blocksAll_four]
  refine ⟨fun x hx => ?_, ?_⟩
  · have hx := (List.mem_filter.1 hx).1
    simp only [List.mem_cons, List.not_mem_nil, or_false] at hx
    rcases hx with rfl | rfl | rfl | rfl <;> exact (h1 _).imp fun {a b} h e => by omega
  · refine List.Pairwise.filter _ ?_
    have hh : ∀ k k', k ≠ k' → ∀ x ∈ (blkSt d most).2 k, ∀ y ∈ (blkSt d most).2 k', x ≠ y := fun k k' hk x hx y hy e => h3 k k' hk x hx (e ▸ hy)
    simp only [List.pairwise_cons, List.mem_cons, List.not_mem_nil, or_false, forall_eq_or_imp, forall_eq, implies_true, List.Pairwise.nil, and_true]
    exact ⟨⟨hh 0 1 (by decide), hh 0 2 (by decide), hh 0 3 (by decide)⟩, ⟨hh 1 2 (by decide), hh 1 3 (by decide)⟩, hh 2 3 (by decide), fun _ h => h.elim⟩
end Go.K
