/- Missed matches: plain. -/
import Derived.Test.YtfmdkdfhnkennaaKCpl
import Derived.Test.YtfmdkdfhnkennaaKA
set_option linter.unusedVariables false
set_option linter.unusedSimpArgs false
namespace Go.K
open Rep

/-! ### The probability that all sets of a mask have an atom that disagrees -/
def missW (ok : Nat → Bool) : List Int → Nat → Nat → Int → Int
  | [], _, dis, p => if ok dis = true then p else 0
  | r :: rs, i, dis, p => missW ok rs (i + 1) dis (p * (64 - r)) + missW ok rs (i + 1) (dis ||| 2 ^ i) (p * r)
def okS (sets : List Nat) (mask dis : Nat) : Bool := (List.range sets.length).all fun k => !(mask.testBit k) || decide (sets.getD k 0 &&& dis ≠ 0)
def missS (sets : List Nat) (rates : List Int) (mask : Nat) : Int := missW (okS sets mask) rates 0 0 1
def RatesOK (l : List Int) : Prop := ∀ r ∈ l, 0 ≤ r ∧ r ≤ 64

theorem RatesOK.tail {r : Int} {rs : List Int} (h : RatesOK (r :: rs)) : (0 ≤ r ∧ r ≤ 64) ∧ RatesOK rs := ⟨h r (by simp), fun x hx => h x (by simp [hx])⟩
theorem missW_zero (ok : Nat → Bool) : ∀ (rs : List Int) (i dis : Nat), missW ok rs i dis 0 = 0
  | [], i, dis => by simp [missW]
  | r :: rs, i, dis => by simp [missW, missW_zero ok rs]
theorem missW_nonneg (ok : Nat → Bool) : ∀ (rs : List Int) (i dis : Nat) (p : Int), RatesOK rs → 0 ≤ p → 0 ≤ missW ok rs i dis p
  | [], i, dis, p, _, hp => by unfold missW; split <;> omega
  | r :: rs, i, dis, p, h, hp => by
    obtain ⟨h1, h2⟩ := h.tail
    have a := missW_nonneg ok rs (i + 1) dis (p * (64 - r)) h2 (Int.mul_nonneg hp (by omega))
    have b := missW_nonneg ok rs (i + 1) (dis ||| 2 ^ i) (p * r) h2 (Int.mul_nonneg hp (by omega))
    unfold missW; omega
theorem missW_mono (ok ok' : Nat → Bool) (hk : ∀ d, ok d = true → ok' d = true) : ∀ (rs : List Int) (i dis : Nat) (p : Int), RatesOK rs → 0 ≤ p → missW ok rs i dis p ≤ missW ok' rs i dis p
  | [], i, dis, p, _, hp => by
    unfold missW
    by_cases h : ok dis = true
    · rw [if_pos h, if_pos (hk _ h)]; exact Int.le_refl _
    · rw [if_neg h]; split <;> omega
  | r :: rs, i, dis, p, h, hp => by
    obtain ⟨h1, h2⟩ := h.tail
    have a := missW_mono ok ok' hk rs (i + 1) dis (p * (64 - r)) h2 (Int.mul_nonneg hp (by omega))
    have b := missW_mono ok ok' hk rs (i + 1) (dis ||| 2 ^ i) (p * r) h2 (Int.mul_nonneg hp (by omega))
    unfold missW; omega
theorem missW_all : ∀ (rs : List Int) (i dis : Nat) (p : Int), missW (fun _ => true) rs i dis p = p * 64 ^ rs.length
  | [], i, dis, p => by simp [missW]
  | r :: rs, i, dis, p => by
    simp only [missW, missW_all rs, List.length_cons, Int.pow_succ]
    rw [← Int.add_mul, ← Int.mul_add, show 64 - r + r = 64 from by omega, Int.mul_assoc, Int.mul_comm 64]
theorem missW_le (ok : Nat → Bool) (rs : List Int) (i dis : Nat) (p : Int) (h : RatesOK rs) (hp : 0 ≤ p) : missW ok rs i dis p ≤ p * 64 ^ rs.length := by
  rw [← missW_all rs i dis p]; exact missW_mono ok _ (fun _ _ => rfl) rs i dis p h hp
/-- Only those sets of atoms matter that are possible. -/
theorem missW_congr (ok ok' : Nat → Bool) : ∀ (rs : List Int) (i dis : Nat) (p : Int), dis < 2 ^ i →
    (∀ d, (∀ k (hk : k < rs.length), (rs[k] = 0 → d.testBit (i + k) = false) ∧ (rs[k] = 64 → d.testBit (i + k) = true)) → (∀ k, k < i → d.testBit k = dis.testBit k) → ok d = ok' d) →
    missW ok rs i dis p = missW ok' rs i dis p
  | [], i, dis, p, hd, h => by
    have := h dis (fun k hk => by simp at hk) (fun k _ => rfl)
    simp only [missW, this]
  | r :: rs, i, dis, p, hd, h => by
    have hb : dis.testBit i = false := Nat.testBit_lt_two_pow hd
    have h1 : missW ok rs (i + 1) dis (p * (64 - r)) = missW ok' rs (i + 1) dis (p * (64 - r)) := by
      by_cases hr : r = 64
      · subst hr; simp [missW_zero]
      · refine missW_congr ok ok' rs (i + 1) dis _ (Nat.lt_of_lt_of_le hd (Nat.pow_le_pow_right (by decide) (by omega))) (fun d h1 h2 => h d (fun k hk => ?_) (fun k hk => h2 k (by omega)))
        cases k with
        | zero =>
          have := h2 i (by omega)
          simp only [List.getElem_cons_zero, Nat.add_zero]
          rw [this, hb]
          exact ⟨fun _ => rfl, fun e => absurd e hr⟩
        | succ k =>
          have := h1 k (by simpa using hk)
          simp only [List.getElem_cons_succ]
          rw [show i + (k + 1) = i + 1 + k from by omega]; exact this
    have h2 : missW ok rs (i + 1) (dis ||| 2 ^ i) (p * r) = missW ok' rs (i + 1) (dis ||| 2 ^ i) (p * r) := by
      by_cases hr : r = 0
      · subst hr; simp [missW_zero]
      · refine missW_congr ok ok' rs (i + 1) _ _ (Nat.or_lt_two_pow (Nat.lt_of_lt_of_le hd (Nat.pow_le_pow_right (by decide) (by omega))) (Nat.pow_lt_pow_right (by decide) (by omega))) (fun d h1 h2 => h d (fun k hk => ?_) (fun k hk => ?_))
        · cases k with
          | zero =>
            have := h2 i (by omega)
            simp only [List.getElem_cons_zero, Nat.add_zero]
            rw [this, Nat.testBit_or, hb]
            simp only [Nat.testBit_two_pow_self, Bool.or_true]
            exact ⟨fun e => absurd e hr, fun _ => by simp⟩
          | succ k =>
            have := h1 k (by simpa using hk)
            simp only [List.getElem_cons_succ]
            rw [show i + (k + 1) = i + 1 + k from by omega]; exact this
        · have := h2 k (by omega)
          rw [this, Nat.testBit_or, Nat.testBit_two_pow_of_ne (by omega), Bool.or_false]
    simp only [missW, h1, h2]
theorem okS_iff {sets : List Nat} {mask dis : Nat} : okS sets mask dis = true ↔ ∀ k, k < sets.length → mask.testBit k = true → sets.getD k 0 &&& dis ≠ 0 := by
  unfold okS
  simp only [List.all_eq_true, List.mem_range, Bool.or_eq_true, Bool.not_eq_true', decide_eq_true_eq]
  exact ⟨fun h k hk hm => (h k hk).resolve_left (by rw [hm]; decide), fun h k hk => by cases hm : mask.testBit k; exact .inl rfl; exact .inr (h k hk hm)⟩
theorem missS_nonneg {sets : List Nat} {rates : List Int} {mask : Nat} (h : RatesOK rates) : 0 ≤ missS sets rates mask := missW_nonneg _ _ _ _ _ h (by decide)
theorem missS_le {sets : List Nat} {rates : List Int} {mask : Nat} (h : RatesOK rates) : missS sets rates mask ≤ 64 ^ rates.length := by
  have := missW_le (okS sets mask) rates 0 0 1 h (by decide); rwa [Int.one_mul] at this
theorem missS_zero (sets : List Nat) (rates : List Int) : missS sets rates 0 = 64 ^ rates.length := by
  unfold missS
  rw [show okS sets 0 = (fun _ => true) from by funext d; exact okS_iff.2 (fun k _ h => by simp at h), missW_all, Int.one_mul]
theorem missS_grow {sets : List Nat} {rates : List Int} {mask b : Nat} (h : RatesOK rates) : missS sets rates (mask ||| b) ≤ missS sets rates mask :=
  missW_mono _ _ (fun d hd => okS_iff.2 fun k hk hm => okS_iff.1 hd k hk (by rw [Nat.testBit_or, hm, Bool.true_or])) _ _ _ _ h (by decide)
/-- A set with an atom of rate 0 alone is never missed. -/
theorem missS_never {sets : List Nat} {rates : List Int} {mask n j : Nat} (hn : n < sets.length) (hm : mask.testBit n = true) (hs : sets.getD n 0 = 2 ^ j) (hj : j < rates.length) (h0 : rates[j] = 0) : missS sets rates mask = 0 := by
  unfold missS
  rw [missW_congr (okS sets mask) (fun _ => false) rates 0 0 1 (by decide) (fun d h1 _ => ?_)]
  · have : ∀ (rs : List Int) (i dis : Nat) (p : Int), missW (fun _ => false) rs i dis p = 0 := by
      intro rs; induction rs with
      | nil => intro i dis p; simp [missW]
      | cons r rs ih => intro i dis p; simp [missW, ih]
    exact this _ _ _ _
  · have hb := (h1 j hj).1 h0
    rw [Nat.zero_add] at hb
    apply Bool.eq_false_iff.2
    intro hk
    have := okS_iff.1 hk n hn hm
    rw [hs] at this
    apply this
    apply Nat.eq_of_testBit_eq
    intro k
    rw [Nat.testBit_and, Nat.testBit_two_pow, Nat.zero_testBit]
    by_cases hjk : j = k
    · subst hjk; rw [hb]; simp
    · simp [hjk]
/-- A set with an atom that always disagrees is as good as none. -/
theorem missS_as_none {sets : List Nat} {rates : List Int} {mask n j : Nat} (hn : n < sets.length) (hs : sets.getD n 0 = 2 ^ j) (hj : j < rates.length) (h0 : rates[j] = 64) : missS sets rates (mask ||| 2 ^ n) = missS sets rates mask := by
  unfold missS
  refine missW_congr _ _ rates 0 0 1 (by decide) (fun d h1 _ => ?_)
  have hb := (h1 j hj).2 h0
  rw [Nat.zero_add] at hb
  rw [Bool.eq_iff_iff, okS_iff, okS_iff]
  refine ⟨fun h k hk hm => h k hk (by rw [Nat.testBit_or, hm, Bool.true_or]), fun h k hk hm => ?_⟩
  by_cases hkn : k = n
  · subst hkn
    rw [hs]
    intro e
    have := congrArg (fun x => x.testBit j) e
    simp only [Nat.testBit_and, Nat.testBit_two_pow_self, hb, Nat.zero_testBit, Bool.and_self] at this
    cases this
  · rw [Nat.testBit_or, Nat.testBit_two_pow_of_ne (by omega), Bool.or_false] at hm
    exact h k hk hm
theorem miss_apart (a b c : Int) : missS [3] [a, b] 1 = 64 * 64 - (64 - a) * (64 - b) ∧ missS [1] [c] 1 = c ∧ missS [3, 4] [a, b, c] 3 = (64 * 64 - (64 - a) * (64 - b)) * c ∧ missS [4, 3] [a, b, c] 3 = (64 * 64 - (64 - a) * (64 - b)) * c := by
  have o1 : okS [3] 1 0 = false ∧ okS [3] 1 1 = true ∧ okS [3] 1 2 = true ∧ okS [3] 1 3 = true ∧ okS [1] 1 0 = false ∧ okS [1] 1 1 = true := by decide
  have o2 : okS [3, 4] 3 0 = false ∧ okS [3, 4] 3 1 = false ∧ okS [3, 4] 3 2 = false ∧ okS [3, 4] 3 3 = false ∧ okS [3, 4] 3 4 = false ∧ okS [3, 4] 3 5 = true ∧ okS [3, 4] 3 6 = true ∧ okS [3, 4] 3 7 = true := by decide
  have o3 : okS [4, 3] 3 0 = false ∧ okS [4, 3] 3 1 = false ∧ okS [4, 3] 3 2 = false ∧ okS [4, 3] 3 3 = false ∧ okS [4, 3] 3 4 = false ∧ okS [4, 3] 3 5 = true ∧ okS [4, 3] 3 6 = true ∧ okS [4, 3] 3 7 = true := by decide
  obtain ⟨p0, p1, p2, p3, p4, p5⟩ := o1
  obtain ⟨q0, q1, q2, q3, q4, q5, q6, q7⟩ := o2
  obtain ⟨r0, r1, r2, r3, r4, r5, r6, r7⟩ := o3
  have e1 : (0 ||| 2 ^ 0 : Nat) = 1 ∧ (0 ||| 2 ^ 1 : Nat) = 2 ∧ (1 ||| 2 ^ 1 : Nat) = 3 ∧ (0 ||| 2 ^ 2 : Nat) = 4 ∧ (1 ||| 2 ^ 2 : Nat) = 5 ∧ (2 ||| 2 ^ 2 : Nat) = 6 ∧ (3 ||| 2 ^ 2 : Nat) = 7 := by decide
  obtain ⟨e1, e2, e3, e4, e5, e6, e7⟩ := e1
  refine ⟨?_, ?_, ?_, ?_⟩ <;> unfold missS <;> simp only [missW, Nat.zero_add, Nat.reduceAdd, e1, e2, e3, e4, e5, e6, e7, p0, p1, p2, p3, p4, p5, q0, q1, q2, q3, q4, q5, q6, q7, r0, r1, r2, r3, r4, r5, r6, r7, if_true, Bool.false_eq_true, if_false] <;> grind

/-! ### Types -/
structure Key where
  comps : List Couple
instance : Rep Key where
  sz := 1
  agg := true
  flat h := by cases h
  rep h M x vs := rep h M x.comps vs
  len h := Rep.len (α := List Couple) h
  one h := Rep.one (α := List Couple) h
  keep h hk := Rep.keep (α := List Couple) h hk
  sub h hk := Rep.sub (α := List Couple) h hk
structure Fv where
  val : Value
  one : val.oneCell' = true
instance : Rep Fv where
  sz := 1
  agg := false
  flat _ := rfl
  rep _ _ x vs := vs = [x.val]
  len h := by subst h; rfl
  one h := by subst h; rename_i x; intro v hv; simp at hv; subst hv; exact x.one
  keep h _ := h
  sub h _ := h
section
variable {w : World} {M : Nat → Prop} {b o : Nat} {v : Value}
theorem RA.comps {x : Key} (h : RA w M x b o) : RA w M x.comps b o := h
theorem rv_key' {x : Key} (h : RV w M x v) : ∃ u, v = .agg #[u] ∧ RV w M x.comps u := by
  obtain ⟨vs, h1, h2⟩ := h
  have hl := Rep.len (α := List Couple) h1
  obtain ⟨u, rfl⟩ := List.length_eq_one_iff.1 hl
  exact ⟨u, h2, rep1_rv (α := List Couple) h1 rfl⟩
theorem rv_key {l : List Couple} (h : RV w M l v) : RV w M (⟨l⟩ : Key) (.agg #[v]) := ⟨[v], h.rep1 rfl, rfl⟩
theorem rv_fv {x : Fv} : RV w M x v ↔ v = x.val := ⟨fun ⟨vs, h, e⟩ => by subst h; exact e, fun h => ⟨_, rfl, h⟩⟩
theorem OwnB.ra {α : Type} [Rep α] {C : Nat → Nat} {j n ty : Nat} {x : α} (h : OwnB w C j b (.cells [v].toArray ty)) (hj : n ≤ j) (hv : RV w (Mc (K.frz n C)) x v) (hx : Rep.agg α = false) : RA w (Mc (K.frz n C)) x b 0 := by
  refine ⟨h.frzM hj, [v].toArray, ty, (0, 0), h.at_, ?_⟩
  have hr := hv.rep1 hx
  rw [Rep.flat hx]
  exact hr
end

/-! ### The first that is found -/
def idxOf {α : Type} (p : α → Bool) (l : List α) : Int := if l.any p then (l.findIdx p : Int) else -1
theorem idxOf_at {α : Type} {p : α → Bool} {l : List α} {k : Nat} (h : k < l.length) (h0 : ∀ i (hi : i < k), p (l[i]'(by omega)) = false) (hp : p l[k] = true) : idxOf p l = k := by
  unfold idxOf
  rw [if_pos (List.any_eq_true.2 ⟨l[k], List.getElem_mem h, hp⟩)]
  have : l.findIdx p = k := (List.findIdx_eq h).2 ⟨hp, fun j hj => by simpa using h0 j hj⟩
  rw [this]
theorem idxOf_none {α : Type} {p : α → Bool} {l : List α} (h0 : ∀ i (hi : i < l.length), p l[i] = false) : idxOf p l = -1 := by
  unfold idxOf
  rw [if_neg]
  intro h
  obtain ⟨x, hx, hp⟩ := List.any_eq_true.1 h
  obtain ⟨i, hi, rfl⟩ := List.mem_iff_getElem.1 hx
  rw [h0 i hi] at hp; cases hp
theorem idxOf_ge {α : Type} {p : α → Bool} {l : List α} : decide (0 ≤ idxOf p l) = l.any p := by
  unfold idxOf
  cases h : l.any p
  · rfl
  · simp only [if_true]; exact decide_eq_true (by omega)
theorem idxOf_mem {l : List Couple} {c : Couple} (h : c ∈ l) : ∃ i : Nat, idxOf (fun x => decide (c = x)) l = (i : Int) ∧ ∃ hi : i < l.length, l[i] = c := by
  have ha : l.any (fun x => decide (c = x)) = true := List.any_eq_true.2 ⟨c, h, by simp⟩
  refine ⟨_, by unfold idxOf; rw [if_pos ha], ?_⟩
  have hlt : l.findIdx (fun x => decide (c = x)) < l.length := List.findIdx_lt_length.2 ⟨c, h, by simp⟩
  refine ⟨hlt, ?_⟩
  have := List.findIdx_getElem (w := hlt)
  simpa [eq_comm] using this

/-! ### Atoms -/
def KeysSm (ks : List Key) : Prop := ks.length ≤ 12 ∧ ∀ k ∈ ks, k.comps.length ≤ 12
def compsS (ks : List Key) : List Couple := ks.flatMap (·.comps)
def atomsS (ks : List Key) : List Couple := compactS (sortC (compsS ks))
theorem compsS_take {ks : List Key} {i : Nat} (h : i < ks.length) : compsS (ks.take (i + 1)) = compsS (ks.take i) ++ ks[i].comps := by
  unfold compsS; rw [List.take_succ_eq_append_getElem h, List.flatMap_append]; simp
theorem compsS_len {ks : List Key} (h : ∀ k ∈ ks, k.comps.length ≤ 12) : (compsS ks).length ≤ ks.length * 12 := by
  induction ks with
  | nil => simp [compsS]
  | cons k ks ih =>
    have h1 := h k (by simp)
    have h2 := ih (fun x hx => h x (by simp [hx]))
    unfold compsS at *
    simp only [List.flatMap_cons, List.length_append, List.length_cons]
    omega
theorem KeysSm.len {ks : List Key} (h : KeysSm ks) (i : Nat) : (compsS (ks.take i)).length ≤ 144 := by
  have h1 := compsS_len (ks := ks.take i) (fun k hk => h.2 k (List.mem_of_mem_take hk))
  have h2 := h.1
  rw [List.length_take] at h1
  have := Nat.mul_le_mul_right 12 (Nat.min_le_right i ks.length)
  omega
theorem KeysSm.all {ks : List Key} (h : KeysSm ks) : (compsS ks).length ≤ 144 := by have := h.len ks.length; rwa [List.take_length] at this
theorem atomsS_len {ks : List Key} (h : KeysSm ks) : (atomsS ks).length ≤ 144 := by
  have := h.all
  have h2 := compactS_len (sortC (compsS ks))
  rw [(sortC_perm _).length_eq] at h2
  unfold atomsS; omega
theorem atomsS_mem {ks : List Key} {c : Couple} : c ∈ atomsS ks ↔ ∃ k ∈ ks, c ∈ k.comps := by
  unfold atomsS; rw [compactS_mem, (sortC_perm _).mem_iff]; unfold compsS; simp
theorem atomsS_nodup (ks : List Key) : (atomsS ks).Nodup := compactS_nodup (fun x y => leC_anti x y) (sortC_sorted _)

/-! ### Checking -/
def badR (r : Int) : Bool := decide (r < 0) || decide (64 < r)
def badQ (r : Int) : Bool := decide (r < 0) || decide (4096 < r)
def checkP (ks : List Key) (rates : List Int) : Int :=
  if 8 < ks.length ∨ 10 < (atomsS ks).length then 1 else if rates.length ≠ (atomsS ks).length then 8 else if rates.any badR = true then 2 else 0
theorem checkP_zero {ks : List Key} {rates : List Int} (h : checkP ks rates = 0) : ks.length ≤ 8 ∧ (atomsS ks).length ≤ 10 ∧ rates.length = (atomsS ks).length ∧ RatesOK rates := by
  unfold checkP at h
  split at h
  · omega
  · split at h
    · omega
    · split at h
      · omega
      · rename_i h1 h2 h3
        refine ⟨by omega, by omega, by omega, fun r hr => ?_⟩
        have h4 : badR r = false := by
          cases hb : badR r with
          | false => rfl
          | true => exact absurd (List.any_eq_true.2 ⟨r, hr, hb⟩) h3
        unfold badR at h4
        simp only [Bool.or_eq_false_iff, decide_eq_false_iff_not] at h4
        omega
theorem checkP_ok {ks : List Key} {rates : List Int} (h1 : ks.length ≤ 8) (h2 : (atomsS ks).length ≤ 10) (h3 : rates.length = (atomsS ks).length) (h4 : RatesOK rates) : checkP ks rates = 0 := by
  unfold checkP
  rw [if_neg (by omega), if_neg (by omega), if_neg]
  intro h
  obtain ⟨r, hr, hb⟩ := List.any_eq_true.1 h
  have := h4 r hr
  unfold badR at hb
  simp only [Bool.or_eq_true, decide_eq_true_eq] at hb
  omega

/-! ### Sets of atoms -/
def bitN (at_ : List Couple) (c : Couple) : Nat := 2 ^ (idxOf (fun x => decide (c = x)) at_).toNat
def setS (at_ : List Couple) (l : List Couple) : Nat := l.foldl (fun n c => n ||| bitN at_ c) 0
def setsS (ks : List Key) : List Nat := ks.map fun k => setS (atomsS ks) k.comps
theorem setS_take {at_ l : List Couple} {i : Nat} (h : i < l.length) : setS at_ (l.take (i + 1)) = setS at_ (l.take i) ||| bitN at_ l[i] := by
  unfold setS; rw [foldl_take _ _ _ _ h]
theorem bitN_lt {at_ : List Couple} {c : Couple} (h : c ∈ at_) {n : Nat} (hn : at_.length ≤ n) : bitN at_ c < 2 ^ n := by
  obtain ⟨i, hi, hl, _⟩ := idxOf_mem h
  unfold bitN; rw [hi, Int.toNat_natCast]
  exact Nat.pow_lt_pow_right (by decide) (by omega)
theorem setS_lt {at_ : List Couple} {n : Nat} (hn : at_.length ≤ n) : ∀ (l : List Couple) (i : Nat), (∀ c ∈ l, c ∈ at_) → i ≤ l.length → setS at_ (l.take i) < 2 ^ n
  | l, 0, _, _ => by simp only [List.take_zero, setS, List.foldl_nil]; exact Nat.pow_pos (by decide)
  | l, i + 1, h, hi => by
    rw [setS_take (by omega)]
    exact Nat.or_lt_two_pow (setS_lt hn l i h (by omega)) (bitN_lt (h _ (List.getElem_mem _)) hn)

theorem setS_foldl_lt {at_ : List Couple} {n : Nat} (hn : at_.length ≤ n) {l : List Couple} (h : ∀ c ∈ l, c ∈ at_) : setS at_ l < 2 ^ n := by
  have := setS_lt hn l l.length h (Nat.le_refl _); rwa [List.take_length] at this

/-! ### The walk's bounds -/
theorem pow64_pos (n : Nat) : (0 : Int) < 64 ^ n := Int.pow_pos (by decide)
theorem walk_split {s p r X : Int} (hs : 0 ≤ s) (hp : 0 ≤ p) (hr : 0 ≤ r) (hr2 : r ≤ 64) (hX : 0 < X) (hb : s + p * (64 * X) ≤ 1152921504606846976) :
    0 ≤ p * (64 - r) ∧ 0 ≤ p * r ∧ p * (64 - r) ≤ 1152921504606846976 ∧ p * r ≤ 1152921504606846976 ∧ s + p * (64 - r) * X ≤ 1152921504606846976 ∧ (∀ m, m ≤ p * (64 - r) * X → s + m + p * r * X ≤ 1152921504606846976) ∧ p ≤ 1152921504606846976 ∧ p * (64 - r) * X + p * r * X = p * (64 * X) := by
  have a1 : 0 ≤ p * (64 - r) := Int.mul_nonneg hp (by omega)
  have a2 : 0 ≤ p * r := Int.mul_nonneg hp hr
  have e : p * (64 - r) * X + p * r * X = p * (64 * X) := by rw [← Int.add_mul, ← Int.mul_add, show 64 - r + r = 64 from by omega, Int.mul_assoc]
  have b1 : 0 ≤ p * (64 - r) * X := Int.mul_nonneg a1 (by omega)
  have b2 : 0 ≤ p * r * X := Int.mul_nonneg a2 (by omega)
  have c1 : p * (64 - r) ≤ p * (64 - r) * X := Int.le_mul_of_pos_right a1 hX
  have c2 : p * r ≤ p * r * X := Int.le_mul_of_pos_right a2 hX
  have c3 : p ≤ p * (64 * X) := Int.le_mul_of_pos_right hp (by omega)
  refine ⟨a1, a2, by omega, by omega, by omega, fun m hm => by omega, by omega, e⟩
where
  Int.le_mul_of_pos_right {a b : Int} (ha : 0 ≤ a) (hb : 0 < b) : a ≤ a * b := by
    have := Int.mul_le_mul_of_nonneg_left (show (1 : Int) ≤ b by omega) ha
    rwa [Int.mul_one] at this

/-! ### Plans -/
def bitsL (mask n : Nat) : List Int := ((List.range n).filter fun i => mask.testBit i).map fun i : Nat => (i : Int)
theorem bitsL_succ (mask n : Nat) : bitsL mask (n + 1) = if mask.testBit n then bitsL mask n ++ [(n : Int)] else bitsL mask n := by
  unfold bitsL
  rw [List.range_succ, List.filter_append]
  by_cases h : mask.testBit n = true
  · rw [if_pos h]; simp [h]
  · rw [if_neg h]; simp [h]
theorem bitsL_len (mask n : Nat) : (bitsL mask n).length ≤ n := by
  unfold bitsL; rw [List.length_map]; exact Nat.le_trans (List.length_filter_le _ _) (by simp)
theorem bitsL_more {mask n : Nat} (h : mask < 2 ^ n) : ∀ k, bitsL mask (n + k) = bitsL mask n
  | 0 => rfl
  | k + 1 => by
    rw [show n + (k + 1) = (n + k) + 1 from rfl, bitsL_succ, if_neg, bitsL_more h k]
    rw [Nat.testBit_lt_two_pow (Nat.lt_of_lt_of_le h (Nat.pow_le_pow_right (by decide) (by omega)))]; decide
theorem bitsL_any {mask n m : Nat} (h : mask < 2 ^ n) (h' : mask < 2 ^ m) : bitsL mask n = bitsL mask m := by
  rcases Nat.le_total n m with hnm | hnm
  · obtain ⟨k, rfl⟩ := Nat.exists_eq_add_of_le hnm; exact (bitsL_more h k).symm
  · obtain ⟨k, rfl⟩ := Nat.exists_eq_add_of_le hnm; exact bitsL_more h' k
/-- The best mask among the first `n`. -/
def bestS (f q : Nat → Int) (budget : Int) : Nat → Option Nat
  | 0 => none
  | n + 1 => if budget < q n then bestS f q budget n else match bestS f q budget n with
    | none => some n
    | some m => if f n < f m ∨ (f n = f m ∧ q n < q m) then some n else some m
theorem bestS_spec (f q : Nat → Int) (budget : Int) : ∀ n, (∀ m, bestS f q budget n = some m → m < n ∧ q m ≤ budget ∧ ∀ k, k < n → q k ≤ budget → f m < f k ∨ (f m = f k ∧ (q m < q k ∨ (q m = q k ∧ m ≤ k)))) ∧ (bestS f q budget n = none → ∀ k, k < n → budget < q k)
  | 0 => ⟨fun m h => (by cases h), fun _ k hk => (by omega)⟩
  | n + 1 => by
    obtain ⟨ih1, ih2⟩ := bestS_spec f q budget n
    unfold bestS
    by_cases hb : budget < q n
    · rw [if_pos hb]
      refine ⟨fun m hm => ?_, fun h k hk => ?_⟩
      · obtain ⟨a, b, c⟩ := ih1 m hm
        refine ⟨by omega, b, fun k hk hq => ?_⟩
        by_cases hkn : k = n
        · subst hkn; omega
        · exact c k (by omega) hq
      · by_cases hkn : k = n
        · subst hkn; exact hb
        · exact ih2 h k (by omega)
    · rw [if_neg hb]
      cases hbs : bestS f q budget n with
      | none =>
        simp only
        refine ⟨fun m hm => ?_, fun h => by cases h⟩
        simp only [Option.some.injEq] at hm
        subst hm
        refine ⟨by omega, by omega, fun k hk hq => ?_⟩
        by_cases hkn : k = n
        · subst hkn; omega
        · have := ih2 hbs k (by omega); omega
      | some p =>
        simp only
        obtain ⟨a, b, c⟩ := ih1 p hbs
        split
        · rename_i hlt
          refine ⟨fun m hm => ?_, fun h => by cases h⟩
          simp only [Option.some.injEq] at hm
          subst hm
          refine ⟨by omega, by omega, fun k hk hq => ?_⟩
          by_cases hkn : k = n
          · subst hkn; omega
          · have := c k (by omega) hq; omega
        · rename_i hge
          refine ⟨fun m hm => ?_, fun h => by cases h⟩
          simp only [Option.some.injEq] at hm
          subst hm
          refine ⟨by omega, b, fun k hk hq => ?_⟩
          by_cases hkn : k = n
          · subst hkn; omega
          · exact c k (by omega) hq
/-- 'Missed'. -/
def missE (ks : List Key) (rates : List Int) (mask : Int) : Value :=
  if checkP ks rates ≠ 0 then .tuple #[.int .i64 0, .int .i64 (checkP ks rates)] else if mask < 0 ∨ ((2 ^ ks.length : Nat) : Int) ≤ mask then .tuple #[.int .i64 0, .int .i64 2] else .tuple #[.int .i64 (missS (setsS ks) rates mask.toNat), .int .i64 0]
theorem setsS_lt {ks : List Key} (h : (atomsS ks).length ≤ 10) : ∀ x ∈ setsS ks, x < 1024 := fun x hx => by
  unfold setsS at hx
  obtain ⟨k, hk, rfl⟩ := List.mem_map.1 hx
  exact setS_foldl_lt (n := 10) h (fun c hc => atomsS_mem.2 ⟨k, hk, hc⟩)
theorem missE_ok {ks : List Key} {rates : List Int} {mask : Nat} (h : checkP ks rates = 0) (hm : mask < 2 ^ ks.length) : missE ks rates (mask : Int) = .tuple #[.int .i64 (missS (setsS ks) rates mask), .int .i64 0] := by
  unfold missE
  rw [if_neg (by omega), if_neg (by omega), Int.toNat_natCast]

/-! ### The best plan -/
structure PlanT where
  keys : List Int
  pairs : Int
  missed : Int
def pq (q : Nat → Int) (bm : Option Nat) : Int := match bm with | none => 0 | some m => q m
def pk (bm : Option Nat) : List Int := match bm with | none => [] | some m => bitsL m 8
def betB (f q : Nat → Int) (bm : Option Nat) (n : Nat) : Bool := match bm with | none => true | some m => decide (f n < f m) || (decide (f n = f m) && decide (q n < q m))
theorem betB_none {f q : Nat → Int} {bm : Option Nat} {n : Nat} (h : ¬ bm.isSome = true) : betB f q bm n = true := by cases bm; rfl; simp at h
theorem cmp_lt (a b c d : Int) : decide (orL [cmpI a b, cmpI c d] < 0) = (decide (a < b) || (decide (a = b) && decide (c < d))) := by
  rw [Bool.eq_iff_iff]
  simp only [orL, cmpI, decide_eq_true_eq, Bool.or_eq_true, Bool.and_eq_true]
  by_cases h1 : a < b <;> by_cases h2 : b < a <;> by_cases h3 : c < d <;> by_cases h4 : d < c <;> simp [h1, h2, h3, h4] <;> omega
theorem betB_some {f q : Nat → Int} {bm : Option Nat} {n : Nat} (h : bm.isSome = true) : decide (orL [cmpI (f n) (pq f bm), cmpI (q n) (pq q bm)] < 0) = betB f q bm n := by
  cases bm with
  | none => simp at h
  | some m => rw [cmp_lt]; rfl
theorem bestS_over {f q : Nat → Int} {budget : Int} {n : Nat} (h : budget < q n) : bestS f q budget (n + 1) = bestS f q budget n := by
  rw [bestS, if_pos h]
theorem bestS_yes {f q : Nat → Int} {budget : Int} {n : Nat} (h : ¬ budget < q n) (hb : betB f q (bestS f q budget n) n = true) : bestS f q budget (n + 1) = some n := by
  rw [bestS, if_neg h]
  cases hbs : bestS f q budget n with
  | none => rfl
  | some m =>
    rw [hbs] at hb
    simp only [betB, Bool.or_eq_true, Bool.and_eq_true, decide_eq_true_eq] at hb
    simp only; rw [if_pos hb]
theorem bestS_no {f q : Nat → Int} {budget : Int} {n : Nat} (h : ¬ budget < q n) (hb : betB f q (bestS f q budget n) n = false) : bestS f q budget (n + 1) = bestS f q budget n := by
  rw [bestS, if_neg h]
  cases hbs : bestS f q budget n with
  | none => rw [hbs] at hb; cases hb
  | some m =>
    rw [hbs] at hb
    simp only [betB, Bool.or_eq_false_iff, Bool.and_eq_false_iff, decide_eq_false_iff_not] at hb
    simp only; rw [if_neg (by omega)]
def fS (ks : List Key) (rs : List Int) : Nat → Int := fun m => missS (setsS ks) rs m
def qS (ps : List Int) : Nat → Int := fun m => ps.getD m 0
def chooseS (ks : List Key) (rs ps : List Int) (budget : Int) : PlanT × Int :=
  if checkP ks rs ≠ 0 then (⟨[], 0, 0⟩, checkP ks rs) else if ps.length ≠ 2 ^ ks.length then (⟨[], 0, 0⟩, 8) else if budget < 0 ∨ ps.any badQ = true then (⟨[], 0, 0⟩, 2) else
  match bestS (fS ks rs) (qS ps) budget ps.length with
  | none => (⟨[], 0, 0⟩, 13)
  | some m => (⟨bitsL m 8, qS ps m, fS ks rs m⟩, 0)
end Go.K
