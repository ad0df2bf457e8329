/- Atoms by insertion; keys and numbers that are dealt: plain. -/
import Derived.Test.YtfmdkdfhnkennaaKPlan
set_option linter.unusedVariables false
set_option linter.unusedSimpArgs false
namespace Go.K
open Rep

def KeysOK (ks : List Key) : Prop := ∀ k ∈ ks, k.comps.length ≤ 3 ∧ ∀ c ∈ k.comps, 0 ≤ c.a ∧ c.a < 10 ∧ 1 ≤ c.b ∧ c.b ≤ 2
theorem KeysOK.sm {ks : List Key} (h : KeysOK ks) (hl : ks.length ≤ 12) : KeysSm ks := ⟨hl, fun k hk => Nat.le_trans (h k hk).1 (by decide)⟩
theorem nodup_le : ∀ (n : Nat) (l : List Nat), l.Nodup → (∀ x ∈ l, x < n) → l.length ≤ n
  | 0, l, _, hl => by
    cases l with
    | nil => simp
    | cons x l => have := hl x (by simp); omega
  | n + 1, l, h, hl => by
    by_cases hn : n ∈ l
    · have h1 := nodup_le n (l.erase n) (h.erase n) (fun x hx => by
        have h2 := (h.mem_erase_iff).1 hx
        have h3 := hl x h2.2
        have h4 := h2.1
        omega)
      rw [List.length_erase_of_mem hn] at h1
      omega
    · have := nodup_le n l h (fun x hx => by
        have h3 := hl x hx
        have h4 : x ≠ n := fun e => hn (e ▸ hx)
        omega)
      omega
/-- At most so many atoms. -/
theorem nodup_bound {n : Nat} {l : List Couple} (hn : l.Nodup) (h : ∀ c ∈ l, 0 ≤ c.a ∧ c.a < (n : Int) ∧ 1 ≤ c.b ∧ c.b ≤ 2) : l.length ≤ n * 2 := by
  let f : Couple → Nat := fun c => c.a.toNat * 2 + (c.b.toNat - 1)
  have hf : (l.map f).Nodup := by
    rw [List.nodup_iff_pairwise_ne, List.pairwise_map]
    rw [List.nodup_iff_pairwise_ne] at hn
    refine hn.imp_of_mem (fun {x y} hx hy hne e => hne ?_)
    have h1 := h x hx; have h2 := h y hy
    have e' : x.a.toNat * 2 + (x.b.toNat - 1) = y.a.toNat * 2 + (y.b.toNat - 1) := e
    have ea : x.a = y.a := by omega
    have eb : x.b = y.b := by omega
    cases x; cases y; simp only at ea eb; rw [ea, eb]
  have := nodup_le (n * 2) (l.map f) hf (fun y hy => by
    obtain ⟨x, hx, rfl⟩ := List.mem_map.1 hy
    have h1 := h x hx
    show x.a.toNat * 2 + (x.b.toNat - 1) < n * 2
    omega)
  simpa using this

/-! ### By insertion -/
def ltB (x y : Couple) : Bool := decide (x.a < y.a) || (decide (x.a = y.a) && decide (x.b < y.b))
theorem ltB_iff {x y : Couple} : ltB x y = true ↔ x.a < y.a ∨ (x.a = y.a ∧ x.b < y.b) := by unfold ltB; simp
def insC : List Couple → Couple → List Couple
  | [], c => [c]
  | x :: l, c => if ltB x c = true then x :: insC l c else if x = c then x :: l else c :: x :: l
theorem insC_at {c : Couple} : ∀ {l : List Couple} {k : Nat}, k ≤ l.length → (∀ i (hi : i < k) (h : i < l.length), ltB l[i] c = true) → (∀ h : k < l.length, ltB l[k] c = false) →
    insC l c = if h : k < l.length then (if l[k] = c then l else l.take k ++ c :: l.drop k) else l ++ [c]
  | [], k, hk, _, _ => by simp at hk; subst hk; simp [insC]
  | x :: l, 0, _, _, h2 => by
    have := h2 (by simp)
    simp only [List.getElem_cons_zero] at this
    simp only [insC, this, Bool.false_eq_true, if_false]
    simp
  | x :: l, k + 1, hk, h1, h2 => by
    have h0 := h1 0 (by omega) (by simp)
    simp only [List.getElem_cons_zero] at h0
    have ih := insC_at (c := c) (l := l) (k := k) (by simpa using hk) (fun i hi h => by have := h1 (i + 1) (by omega) (by simpa using h); simpa using this) (fun h => by have := h2 (by simpa using h); simpa using this)
    simp only [insC, h0, if_true, ih, List.length_cons, Nat.add_lt_add_iff_right, List.getElem_cons_succ, List.take_succ_cons, List.drop_succ_cons]
    split
    · split <;> simp
    · simp
theorem insC_mem {c x : Couple} : ∀ {l : List Couple}, x ∈ insC l c ↔ x = c ∨ x ∈ l
  | [] => by simp [insC]
  | y :: l => by
    have ih := insC_mem (c := c) (x := x) (l := l)
    unfold insC
    split
    · simp only [List.mem_cons, ih]
      constructor
      · rintro (h | h | h) <;> simp [h]
      · rintro (h | h | h) <;> simp [h]
    · split
      · rename_i e; subst e; simp
      · simp
theorem insC_sorted {c : Couple} : ∀ {l : List Couple}, l.Pairwise (fun x y => ltB x y = true) → (insC l c).Pairwise (fun x y => ltB x y = true)
  | [], _ => by simp [insC]
  | y :: l, h => by
    obtain ⟨h1, h2⟩ := List.pairwise_cons.1 h
    unfold insC
    split
    · rename_i hy
      refine List.pairwise_cons.2 ⟨fun z hz => ?_, insC_sorted h2⟩
      rcases insC_mem.1 hz with e | hz
      · rw [e]; exact hy
      · exact h1 z hz
    · split
      · exact h
      · rename_i hn he
        have hcy : ltB c y = true := by
          rw [ltB_iff] at hn ⊢
          by_cases ea : y.a = c.a
          · by_cases eb : y.b = c.b
            · exact absurd (by cases y; cases c; simp only at ea eb; rw [ea, eb]) he
            · omega
          · omega
        refine List.pairwise_cons.2 ⟨fun z hz => ?_, h⟩
        rcases List.mem_cons.1 hz with e | hz
        · rw [e]; exact hcy
        · have := h1 z hz
          rw [ltB_iff] at this hcy ⊢; omega
def refA (l : List Couple) : List Couple := l.foldl insC []
theorem refA_snoc (l : List Couple) (c : Couple) : refA (l ++ [c]) = insC (refA l) c := by unfold refA; rw [List.foldl_append]; rfl
theorem refA_spec : ∀ (l : List Couple) (a : List Couple), a.Pairwise (fun x y => ltB x y = true) → (l.foldl insC a).Pairwise (fun x y => ltB x y = true) ∧ ∀ x, x ∈ l.foldl insC a ↔ x ∈ a ∨ x ∈ l
  | [], a, h => ⟨h, fun x => by simp⟩
  | c :: l, a, h => by
    obtain ⟨h1, h2⟩ := refA_spec l (insC a c) (insC_sorted h)
    refine ⟨h1, fun x => ?_⟩
    rw [List.foldl_cons, h2, insC_mem, List.mem_cons]
    constructor
    · rintro ((h | h) | h) <;> simp [h]
    · rintro (h | h | h) <;> simp [h]
theorem insC_len (c : Couple) : ∀ a : List Couple, (insC a c).length ≤ a.length + 1
  | [] => by simp [insC]
  | y :: a => by
    have := insC_len c a
    unfold insC; split
    · simp only [List.length_cons]; omega
    · split <;> simp
theorem refA_len (l : List Couple) : (refA l).length ≤ l.length := by
  have : ∀ (l a : List Couple), (l.foldl insC a).length ≤ a.length + l.length := by
    intro l; induction l with
    | nil => intro a; simp
    | cons c l ih =>
      intro a
      have h1 := ih (insC a c)
      have h2 := insC_len c a
      rw [List.foldl_cons, List.length_cons]; omega
  have := this l []
  simpa [refA] using this
theorem refA_eq (ks : List Key) : refA (compsS ks) = atomsS ks := by
  obtain ⟨h1, h2⟩ := refA_spec (compsS ks) [] List.Pairwise.nil
  have hs1 : (refA (compsS ks)).Pairwise (fun x y => leC x y = true) := h1.imp (fun {x y} h => by rw [ltB_iff] at h; rw [leC_iff]; omega)
  have hn1 : (refA (compsS ks)).Nodup := by
    rw [List.nodup_iff_pairwise_ne]
    exact h1.imp (fun {x y} h e => by subst e; rw [ltB_iff] at h; omega)
  have hs2 : (atomsS ks).Pairwise (fun x y => leC x y = true) := (sortC_sorted (compsS ks)).sublist (compactS_sub _)
  refine sorted_unique leC_anti ((List.perm_ext_iff_of_nodup hn1 (atomsS_nodup ks)).2 fun x => ?_) hs1 hs2
  unfold refA
  rw [h2]
  unfold atomsS
  rw [compactS_mem, (sortC_perm _).mem_iff]; simp
theorem atomsS_bound {ks : List Key} (h : KeysOK ks) {n : Nat} (hn : ∀ k ∈ ks, ∀ c ∈ k.comps, c.a < (n : Int)) : (atomsS ks).length ≤ n * 2 :=
  nodup_bound (atomsS_nodup ks) (fun c hc => by
    obtain ⟨k, hk, hck⟩ := atomsS_mem.1 hc
    have h1 := (h k hk).2 c hck
    exact ⟨h1.1, hn k hk c hck, h1.2.2⟩)
theorem and_two_pow_ne {m q : Nat} (h : m.testBit q = true) : m &&& 2 ^ q ≠ 0 := fun e => by
  have := congrArg (fun x => x.testBit q) e
  simp only [Nat.testBit_and, h, Nat.testBit_two_pow_self, Nat.zero_testBit, Bool.and_self] at this
  cases this

/-! ### The sanity check -/
def awK : List Key := [⟨[⟨0, 1⟩, ⟨1, 1⟩]⟩]
theorem awK_sm : KeysSm awK := ⟨by decide, fun k hk => by simp [awK] at hk; subst hk; decide⟩
theorem aw_atoms : atomsS awK = [⟨0, 1⟩, ⟨1, 1⟩] := by
  rw [← refA_eq]; decide
theorem aw_check : checkP awK [32, 32] = 0 := checkP_ok (by decide) (by rw [aw_atoms]; decide) (by rw [aw_atoms]; rfl) (fun r hr => by simp at hr; omega)
theorem aw_sets : setsS awK = [3] := by unfold setsS; rw [aw_atoms]; decide
theorem aw_f1 : fS awK [32, 32] 1 = 3072 := by unfold fS; rw [aw_sets]; decide
theorem aw_f0 : fS awK [32, 32] 0 = 4096 := by unfold fS; rw [aw_sets]; decide
theorem aw_miss : missE awK [32, 32] 1 = .tuple #[.int .i64 3072, .int .i64 0] := by
  have h := missE_ok (mask := 1) aw_check (by decide)
  rw [show ((1 : Nat) : Int) = 1 from rfl] at h
  rw [h]; rw [show missS (setsS awK) [32, 32] 1 = 3072 from aw_f1]
theorem aw_choose : chooseS awK [32, 32] [0, 9] 10 = (⟨[0], 9, 3072⟩, 0) := by
  unfold chooseS
  have hb : bestS (fS awK [32, 32]) (qS [0, 9]) 10 2 = some 1 := by
    simp only [bestS, aw_f0, aw_f1, qS]; decide
  rw [if_neg (by rw [aw_check]; decide), if_neg (by decide), if_neg (by decide), show ([0, 9] : List Int).length = 2 from rfl, hb]
  simp only [aw_f1]; rfl

/-! ### Keys without common atoms -/
def apB : List Key := [⟨[⟨2, 1⟩]⟩]
def apAB : List Key := [⟨[⟨0, 1⟩, ⟨1, 1⟩]⟩, ⟨[⟨2, 1⟩]⟩]
def apBA : List Key := [⟨[⟨2, 1⟩]⟩, ⟨[⟨0, 1⟩, ⟨1, 1⟩]⟩]
theorem apB_sm : KeysSm apB := ⟨by decide, fun k hk => by simp [apB] at hk; subst hk; decide⟩
theorem apAB_sm : KeysSm apAB := ⟨by decide, fun k hk => by simp [apAB] at hk; rcases hk with rfl | rfl <;> decide⟩
theorem apBA_sm : KeysSm apBA := ⟨by decide, fun k hk => by simp [apBA] at hk; rcases hk with rfl | rfl <;> decide⟩
theorem apB_atoms : atomsS apB = [⟨2, 1⟩] := by rw [← refA_eq]; decide
theorem apAB_atoms : atomsS apAB = [⟨0, 1⟩, ⟨1, 1⟩, ⟨2, 1⟩] := by rw [← refA_eq]; decide
theorem apBA_atoms : atomsS apBA = [⟨0, 1⟩, ⟨1, 1⟩, ⟨2, 1⟩] := by rw [← refA_eq]; decide
theorem apB_sets : setsS apB = [1] := by unfold setsS; rw [apB_atoms]; decide
theorem apAB_sets : setsS apAB = [3, 4] := by unfold setsS; rw [apAB_atoms]; decide
theorem apBA_sets : setsS apBA = [4, 3] := by unfold setsS; rw [apBA_atoms]; decide
theorem ap_all {a b c : Nat} (ha : a ≤ 64) (hb : b ≤ 64) (hc : c ≤ 64) : ∃ x y xy : Int, missE awK [(a : Int), b] 1 = .tuple #[.int .i64 x, .int .i64 0] ∧ missE apB [(c : Int)] 1 = .tuple #[.int .i64 y, .int .i64 0] ∧
    missE apAB [(a : Int), b, c] 3 = .tuple #[.int .i64 xy, .int .i64 0] ∧ missE apBA [(a : Int), b, c] 3 = .tuple #[.int .i64 xy, .int .i64 0] ∧ x = 64 * 64 - (64 - (a : Int)) * (64 - b) ∧ y = c ∧ x * y = xy ∧ 0 ≤ x ∧ x ≤ 4096 ∧ 0 ≤ xy ∧ xy ≤ 262144 := by
  obtain ⟨h1, h2, h3, h4⟩ := miss_apart (a : Int) b c
  have r2 : RatesOK [(a : Int), b] := fun r hr => by simp only [List.mem_cons, List.not_mem_nil, or_false] at hr; omega
  have r1 : RatesOK [(c : Int)] := fun r hr => by simp only [List.mem_cons, List.not_mem_nil, or_false] at hr; omega
  have r3 : RatesOK [(a : Int), b, c] := fun r hr => by simp only [List.mem_cons, List.not_mem_nil, or_false] at hr; omega
  have k1 := missE_ok (mask := 1) (checkP_ok (ks := awK) (rates := [(a : Int), b]) (by decide) (by rw [aw_atoms]; decide) (by rw [aw_atoms]; rfl) r2) (by decide)
  have k2 := missE_ok (mask := 1) (checkP_ok (ks := apB) (rates := [(c : Int)]) (by decide) (by rw [apB_atoms]; decide) (by rw [apB_atoms]; rfl) r1) (by decide)
  have k3 := missE_ok (mask := 3) (checkP_ok (ks := apAB) (rates := [(a : Int), b, c]) (by decide) (by rw [apAB_atoms]; decide) (by rw [apAB_atoms]; rfl) r3) (by decide)
  have k4 := missE_ok (mask := 3) (checkP_ok (ks := apBA) (rates := [(a : Int), b, c]) (by decide) (by rw [apBA_atoms]; decide) (by rw [apBA_atoms]; rfl) r3) (by decide)
  rw [aw_sets] at k1; rw [apB_sets] at k2; rw [apAB_sets] at k3; rw [apBA_sets] at k4
  have b1 := missS_nonneg (sets := [3]) (mask := 1) r2
  have b2 := missS_le (sets := [3]) (mask := 1) r2
  have b3 := missS_nonneg (sets := [3, 4]) (mask := 3) r3
  have b4 := missS_le (sets := [3, 4]) (mask := 3) r3
  simp only [List.length_cons, List.length_nil, Nat.zero_add, Nat.reduceAdd, Int.reducePow] at b2 b4
  refine ⟨_, _, _, k1, k2, k3, by rw [h4, ← h3] at k4; exact k4, h1, h2, by rw [h1, h2, h3], b1, b2, b3, b4⟩

/-! ### The best plan -/
def chB (l : List Int) : Nat := l.foldl (fun c i => c ||| 2 ^ i.toNat) 0
theorem chB_snoc (l : List Int) (i : Nat) : chB (l ++ [(i : Int)]) = chB l ||| 2 ^ i := by unfold chB; rw [List.foldl_append]; simp
theorem mod_bit (m t : Nat) : m % 2 ^ (t + 1) = if m.testBit t = true then m % 2 ^ t ||| 2 ^ t else m % 2 ^ t := by
  apply Nat.eq_of_testBit_eq
  intro k
  rw [Nat.testBit_mod_two_pow]
  split
  · rename_i h
    rw [Nat.testBit_or, Nat.testBit_mod_two_pow, Nat.testBit_two_pow]
    by_cases h1 : k < t
    · have e1 : decide (k < t + 1) = true := decide_eq_true (by omega)
      have e2 : decide (k < t) = true := decide_eq_true h1
      have e3 : decide (t = k) = false := decide_eq_false (by omega)
      rw [e1, e2, e3]; simp
    · by_cases h2 : k = t
      · subst h2; simp [h]
      · have e1 : decide (k < t + 1) = false := decide_eq_false (by omega)
        have e2 : decide (k < t) = false := decide_eq_false (by omega)
        have e3 : decide (t = k) = false := decide_eq_false (by omega)
        rw [e1, e2, e3]; simp
  · rename_i h
    rw [Nat.testBit_mod_two_pow]
    by_cases h1 : k < t
    · have e1 : decide (k < t + 1) = true := decide_eq_true (by omega)
      have e2 : decide (k < t) = true := decide_eq_true h1
      rw [e1, e2]
    · by_cases h2 : k = t
      · subst h2; simp [h]
      · have e1 : decide (k < t + 1) = false := decide_eq_false (by omega)
        have e2 : decide (k < t) = false := decide_eq_false (by omega)
        rw [e1, e2]
theorem chB_bits (m : Nat) : ∀ t, chB (bitsL m t) = m % 2 ^ t
  | 0 => by simp [bitsL, chB, Nat.mod_one]
  | t + 1 => by
    rw [bitsL_succ, mod_bit]
    split
    · rw [chB_snoc, chB_bits m t]
    · exact chB_bits m t
theorem bitsL_at (m : Nat) : ∀ (n q : Nat) (h : q < (bitsL m n).length), ∃ i, i < n ∧ m.testBit i = true ∧ (bitsL m n)[q] = (i : Int) ∧ (bitsL m n).take q = bitsL m i
  | 0, q, h => by simp [bitsL] at h
  | n + 1, q, h => by
    have hs := bitsL_succ m n
    by_cases hb : m.testBit n = true
    · rw [if_pos hb] at hs
      by_cases hq : q < (bitsL m n).length
      · obtain ⟨i, h1, h2, h3, h4⟩ := bitsL_at m n q hq
        refine ⟨i, by omega, h2, ?_, ?_⟩
        · simp only [hs]; rw [List.getElem_append_left hq]; exact h3
        · rw [hs, List.take_append_of_le_length (by omega)]; exact h4
      · have hq2 : q = (bitsL m n).length := by rw [hs, List.length_append, List.length_singleton] at h; omega
        refine ⟨n, by omega, hb, ?_, ?_⟩
        · simp only [hs]; subst hq2; simp
        · rw [hs]; subst hq2; simp
    · rw [if_neg hb] at hs
      obtain ⟨i, h1, h2, h3, h4⟩ := bitsL_at m n q (by rw [← hs]; exact h)
      refine ⟨i, by omega, h2, ?_, ?_⟩
      · simp only [hs]; exact h3
      · rw [hs]; exact h4
theorem choose_dealt {ks : List Key} {rs qs : List Int} {bg : Int} (hz : checkP ks rs = 0) (hl : qs.length = 2 ^ ks.length) (h32 : 2 ^ ks.length ≤ 32) (hb : 0 ≤ bg) (hq : ∀ p (h : p < qs.length), 0 ≤ qs[p] ∧ qs[p] ≤ 29 * (p : Int)) :
    ∃ m0, chooseS ks rs qs bg = (⟨bitsL m0 8, qS qs m0, fS ks rs m0⟩, 0) ∧ m0 < 2 ^ ks.length ∧ 0 ≤ qS qs m0 ∧ qS qs m0 ≤ bg ∧
      ∀ k, k < 2 ^ ks.length → qS qs k ≤ bg → fS ks rs m0 < fS ks rs k ∨ (fS ks rs m0 = fS ks rs k ∧ (qS qs m0 < qS qs k ∨ (qS qs m0 = qS qs k ∧ m0 ≤ k))) := by
  have hget : ∀ p (h : p < qs.length), qS qs p = qs[p] := fun p h => by simp [qS, List.getD_eq_getElem?_getD, h]
  have h1 : 0 < 2 ^ ks.length := Nat.pow_pos (by decide)
  have hbad : ¬ (bg < 0 ∨ qs.any badQ = true) := by
    rintro (h | h)
    · omega
    · obtain ⟨x, hx, hbx⟩ := List.any_eq_true.1 h
      obtain ⟨p, hp, rfl⟩ := List.mem_iff_getElem.1 hx
      have := hq p hp
      unfold badQ at hbx
      simp only [Bool.or_eq_true, decide_eq_true_eq] at hbx
      omega
  obtain ⟨s1, s2⟩ := bestS_spec (fS ks rs) (qS qs) bg qs.length
  unfold chooseS
  rw [if_neg (by omega), if_neg (by omega), if_neg hbad]
  cases hbs : bestS (fS ks rs) (qS qs) bg qs.length with
  | none =>
    have := s2 hbs 0 (by omega)
    have h0 := hq 0 (by omega)
    rw [hget 0 (by omega)] at this
    omega
  | some m =>
    obtain ⟨a, b, c⟩ := s1 m hbs
    refine ⟨m, rfl, by omega, ?_, b, fun k hk hqk => c k (by omega) hqk⟩
    rw [hget m a]; exact (hq m a).1

/-! ### The order of atoms -/
theorem atomsS_strict (ks : List Key) (i : Nat) (h1 : 1 ≤ i) (h : i < (atomsS ks).length) : ltB ((atomsS ks)[i - 1]'(by omega)) (atomsS ks)[i] = true := by
  have hp : (atomsS ks).Pairwise (fun x y => ltB x y = true) := by rw [← refA_eq]; exact (refA_spec (compsS ks) [] List.Pairwise.nil).1
  exact List.pairwise_iff_getElem.1 hp (i - 1) i (by omega) h (by omega)
theorem atomsS_le (ks : List Key) : (atomsS ks).length ≤ (compsS ks).length := by
  have := compactS_len (sortC (compsS ks))
  rw [(sortC_perm _).length_eq] at this
  exact this
theorem any_take2 {γ : Type} (p : γ → Bool) (l : List γ) {i : Nat} (h : i < l.length) : (l.take (i + 1)).any p = ((l.take i).any p || p l[i]) := by
  rw [List.take_succ_eq_append_getElem h, List.any_append]; simp
theorem any_eq_mem {l : List Couple} {c : Couple} (h : c ∈ l) : (l.any fun a => decide (a = c)) = true := List.any_eq_true.2 ⟨c, h, by simp⟩
end Go.K
