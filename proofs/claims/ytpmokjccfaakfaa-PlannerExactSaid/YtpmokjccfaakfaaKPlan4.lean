/- Missed matches by all sets of atoms: plain. -/
import Derived.Test.YtpmokjccfaakfaaKPlan2
set_option linter.unusedVariables false
set_option linter.unusedSimpArgs false
namespace Go.K
open Rep

/-- The walk, whatever is done at its leaves. -/
def mwG (g : Nat → Int → Int) : List Int → Nat → Nat → Int → Int
  | [], _, dis, p => g dis p
  | r :: rs, i, dis, p => mwG g rs (i + 1) dis (p * (64 - r)) + mwG g rs (i + 1) (dis ||| 2 ^ i) (p * r)
theorem mwG_ok (ok : Nat → Bool) : ∀ (rs : List Int) (i dis : Nat) (p : Int), missW ok rs i dis p = mwG (fun d q => if ok d = true then q else 0) rs i dis p
  | [], i, dis, p => rfl
  | r :: rs, i, dis, p => by simp only [missW, mwG, mwG_ok ok rs]
theorem mwG_snoc (g : Nat → Int → Int) (r : Int) : ∀ (rs : List Int) (i dis : Nat) (p : Int), mwG g (rs ++ [r]) i dis p = mwG (fun d q => g d (q * (64 - r)) + g (d ||| 2 ^ (i + rs.length)) (q * r)) rs i dis p
  | [], i, dis, p => by simp [mwG]
  | a :: rs, i, dis, p => by
    simp only [List.cons_append, mwG, mwG_snoc g r rs, List.length_cons]
    rw [show i + 1 + rs.length = i + (rs.length + 1) from by omega]
/-- The product of a set. -/
def prodS (rs : List Int) (s : Nat) : Int := (List.range rs.length).foldl (fun p k => if s.testBit k = true then p * rs.getD k 0 else p * (64 - rs.getD k 0)) 1
def sumN (f : Nat → Int) : Nat → Int
  | 0 => 0
  | n + 1 => sumN f n + f n
theorem sumN_add (f : Nat → Int) (a : Nat) : ∀ b, sumN f (a + b) = sumN f a + sumN (fun s => f (a + s)) b
  | 0 => by simp [sumN]
  | b + 1 => by rw [show a + (b + 1) = (a + b) + 1 from rfl, sumN, sumN_add f a b, sumN]; omega
theorem sumN_congr {f g : Nat → Int} : ∀ {n : Nat}, (∀ s, s < n → f s = g s) → sumN f n = sumN g n
  | 0, _ => rfl
  | n + 1, h => by rw [sumN, sumN, sumN_congr (fun s hs => h s (by omega)), h n (by omega)]
theorem sumN_plus (f g : Nat → Int) : ∀ n, sumN (fun s => f s + g s) n = sumN f n + sumN g n
  | 0 => by simp [sumN]
  | n + 1 => by simp only [sumN, sumN_plus f g n]; omega
theorem foldl_range_congr {γ : Type} {f g : γ → Nat → γ} : ∀ (n : Nat) (a : γ), (∀ x k, k < n → f x k = g x k) → (List.range n).foldl f a = (List.range n).foldl g a
  | 0, a, _ => rfl
  | n + 1, a, h => by
    rw [List.range_succ, List.foldl_append, List.foldl_append, foldl_range_congr n a (fun x k hk => h x k (by omega))]
    exact h _ n (by omega)
theorem prodS_snoc (rs : List Int) (r : Int) (s : Nat) : prodS (rs ++ [r]) s = if s.testBit rs.length = true then prodS rs s * r else prodS rs s * (64 - r) := by
  unfold prodS
  rw [List.length_append, List.length_singleton, List.range_succ, List.foldl_append]
  have h1 : (rs ++ [r]).getD rs.length 0 = r := by simp [List.getD_eq_getElem?_getD]
  have h2 := foldl_range_congr (f := fun p k => if s.testBit k = true then p * (rs ++ [r]).getD k 0 else p * (64 - (rs ++ [r]).getD k 0)) (g := fun p k => if s.testBit k = true then p * rs.getD k 0 else p * (64 - rs.getD k 0)) rs.length (1 : Int)
    (fun x k hk => by simp only [List.getD_eq_getElem?_getD, List.getElem?_append_left hk])
  rw [h2]
  simp only [List.foldl_cons, List.foldl_nil, h1]
theorem prodS_bits {rs : List Int} {s t : Nat} (h : ∀ k, k < rs.length → s.testBit k = t.testBit k) : prodS rs s = prodS rs t :=
  foldl_range_congr _ _ (fun x k hk => by rw [h k hk])
theorem mwG_sum : ∀ (n : Nat) (rs : List Int) (g : Nat → Int → Int), rs.length = n → mwG g rs 0 0 1 = sumN (fun s => g s (prodS rs s)) (2 ^ n)
  | 0, rs, g, h => by
    obtain rfl := List.length_eq_zero_iff.1 h
    simp [mwG, sumN, prodS]
  | n + 1, rs, g, h => by
    have hne : rs ≠ [] := by intro e; subst e; simp at h
    obtain ⟨l, r, rfl⟩ : ∃ l r, rs = l ++ [r] := ⟨rs.dropLast, rs.getLast hne, (List.dropLast_concat_getLast hne).symm⟩
    have hl : l.length = n := by simpa using h
    rw [mwG_snoc, mwG_sum n l _ hl, Nat.zero_add, hl, Nat.pow_succ, Nat.mul_two, sumN_add, sumN_plus]
    congr 1
    · apply sumN_congr
      intro s hs
      rw [prodS_snoc, if_neg (by rw [hl, Nat.testBit_lt_two_pow hs]; decide)]
    · apply sumN_congr
      intro s hs
      have e : 2 ^ n + s = s ||| 2 ^ n := by
        have := Nat.two_pow_add_eq_or_of_lt hs 1
        rw [Nat.mul_one] at this; rw [this, Nat.or_comm]
      have hb : (2 ^ n + s).testBit n = true := by rw [e, Nat.testBit_or, Nat.testBit_two_pow_self, Bool.or_true]
      rw [prodS_snoc, hl, if_pos hb, ← e]
      congr 2
      exact prodS_bits (fun k hk => by rw [e, Nat.testBit_or, Nat.testBit_two_pow_of_ne (by omega), Bool.or_false])
/-- By all sets of atoms. -/
theorem missS_sum (sets : List Nat) (rs : List Int) (mask : Nat) : missS sets rs mask = sumN (fun s => if okS sets mask s = true then prodS rs s else 0) (2 ^ rs.length) := by
  unfold missS
  rw [mwG_ok, mwG_sum rs.length rs _ rfl]

/-! ### A key with an atom in a set -/
def missB (comps at_ : List Couple) (s : Nat) : Bool := (List.range at_.length).any fun i => s.testBit i && comps.any fun c => decide (some c = at_[i]?)
theorem setS_testBit {at_ : List Couple} (hn : at_.Nodup) : ∀ (l : List Couple), (∀ c ∈ l, c ∈ at_) → ∀ (a k : Nat), (l.foldl (fun n c => n ||| bitN at_ c) a).testBit k = (a.testBit k || l.any fun c => decide (some c = at_[k]?))
  | [], _, a, k => by simp
  | c :: l, h, a, k => by
    rw [List.foldl_cons, setS_testBit hn l (fun x hx => h x (by simp [hx])), Nat.testBit_or, List.any_cons, Bool.or_assoc]
    congr 2
    obtain ⟨i, hi, hil, hic⟩ := idxOf_mem (h c (by simp))
    unfold bitN
    rw [hi, Int.toNat_natCast, Nat.testBit_two_pow]
    apply decide_eq_decide.2
    constructor
    · intro e; subst e; rw [List.getElem?_eq_getElem hil, hic]
    · intro e
      obtain ⟨hk, hkc⟩ := List.getElem?_eq_some_iff.1 e.symm
      exact (List.getElem_inj hn).1 (by rw [hic, hkc])
theorem setS_and {at_ l : List Couple} (hn : at_.Nodup) (h : ∀ c ∈ l, c ∈ at_) (s : Nat) : missB l at_ s = decide (setS at_ l &&& s ≠ 0) := by
  rw [Bool.eq_iff_iff, decide_eq_true_eq]
  unfold missB
  rw [List.any_eq_true]
  have hb := fun k => setS_testBit hn l h 0 k
  constructor
  · rintro ⟨i, _, hi⟩ e
    rw [Bool.and_eq_true] at hi
    have := congrArg (fun x => x.testBit i) e
    simp only [Nat.testBit_and, Nat.zero_testBit] at this
    rw [show (setS at_ l).testBit i = true from by unfold setS; rw [hb, hi.2, Bool.or_true], hi.1] at this
    cases this
  · intro hne
    obtain ⟨k, hk⟩ : ∃ k, (setS at_ l &&& s).testBit k = true := by
      apply Classical.byContradiction
      intro hno
      apply hne
      apply Nat.eq_of_testBit_eq
      intro k
      rw [Nat.zero_testBit]
      cases hb : (setS at_ l &&& s).testBit k with
      | false => rfl
      | true => exact absurd ⟨k, hb⟩ hno
    rw [Nat.testBit_and, Bool.and_eq_true] at hk
    have h1 : (l.any fun c => decide (some c = at_[k]?)) = true := by
      have := hk.1; unfold setS at this; rw [hb] at this; simpa using this
    refine ⟨k, List.mem_range.2 ?_, by rw [hk.2, h1]; rfl⟩
    obtain ⟨c, _, hc⟩ := List.any_eq_true.1 h1
    rcases Nat.lt_or_ge k at_.length with hlt | hge
    · exact hlt
    · rw [List.getElem?_eq_none hge] at hc; simp at hc
theorem okS_keys (ks : List Key) (mask s : Nat) : okS (setsS ks) mask s = (List.range ks.length).all fun i => !(mask.testBit i) || missB (ks.getD i ⟨[]⟩).comps (atomsS ks) s := by
  unfold okS
  have hl : (setsS ks).length = ks.length := by simp [setsS]
  rw [hl, Bool.eq_iff_iff, List.all_eq_true, List.all_eq_true]
  have key : ∀ i, i < ks.length → missB (ks.getD i ⟨[]⟩).comps (atomsS ks) s = decide ((setsS ks).getD i 0 &&& s ≠ 0) := fun i hi => by
    have e1 : ks.getD i ⟨[]⟩ = ks[i] := by simp [List.getD_eq_getElem?_getD, hi]
    have e2 : (setsS ks).getD i 0 = setS (atomsS ks) ks[i].comps := by simp [setsS, List.getD_eq_getElem?_getD, hi]
    rw [e1, e2]
    exact setS_and (atomsS_nodup ks) (fun c hc => atomsS_mem.2 ⟨ks[i], List.getElem_mem hi, hc⟩) s
  constructor
  · intro h i hi
    have := h i hi
    rw [key i (List.mem_range.1 hi)]; exact this
  · intro h i hi
    have := h i hi
    rw [key i (List.mem_range.1 hi)] at this; exact this

/-! ### Bounds of sums and products -/
def prodP (rs : List Int) (s k : Nat) : Int := (List.range k).foldl (fun p k => if s.testBit k = true then p * rs.getD k 0 else p * (64 - rs.getD k 0)) 1
theorem prodP_succ (rs : List Int) (s k : Nat) : prodP rs s (k + 1) = if s.testBit k = true then prodP rs s k * rs.getD k 0 else prodP rs s k * (64 - rs.getD k 0) := by
  unfold prodP; rw [List.range_succ, List.foldl_append]; rfl
theorem prodP_all (rs : List Int) (s : Nat) : prodP rs s rs.length = prodS rs s := rfl
theorem prodP_bound {rs : List Int} (h : RatesOK rs) (s : Nat) : ∀ k, k ≤ rs.length → 0 ≤ prodP rs s k ∧ prodP rs s k ≤ 64 ^ k
  | 0, _ => by simp [prodP]
  | k + 1, hk => by
    obtain ⟨h1, h2⟩ := prodP_bound h s k (by omega)
    have hg : rs.getD k 0 = rs[k] := by simp [List.getD_eq_getElem?_getD, show k < rs.length by omega]
    have hr := h rs[k] (List.getElem_mem _)
    rw [prodP_succ, hg, Int.pow_succ]
    split
    · exact ⟨Int.mul_nonneg h1 hr.1, Int.mul_le_mul h2 hr.2 hr.1 (Int.le_trans h1 h2)⟩
    · exact ⟨Int.mul_nonneg h1 (by omega), Int.mul_le_mul h2 (by omega) (by omega) (Int.le_trans h1 h2)⟩
theorem sumN_mono {f : Nat → Int} (h : ∀ s, 0 ≤ f s) : ∀ {a b : Nat}, a ≤ b → sumN f a ≤ sumN f b := fun {a b} hab => by
  obtain ⟨c, rfl⟩ := Nat.exists_eq_add_of_le hab
  rw [sumN_add]
  have : ∀ n (g : Nat → Int), (∀ s, 0 ≤ g s) → 0 ≤ sumN g n := by
    intro n; induction n with
    | zero => intro g _; simp [sumN]
    | succ n ih => intro g hg; have := ih g hg; have := hg n; simp only [sumN]; omega
  have := this c (fun s => f (a + s)) (fun s => h _)
  omega
def gS (ks : List Key) (rs : List Int) (mk s : Nat) : Int := if okS (setsS ks) mk s = true then prodS rs s else 0
theorem gS_nonneg {ks : List Key} {rs : List Int} {mk : Nat} (h : RatesOK rs) (s : Nat) : 0 ≤ gS ks rs mk s := by
  unfold gS; split
  · exact (prodP_bound h s rs.length (Nat.le_refl _)).1
  · exact Int.le_refl _
theorem gS_sum (ks : List Key) (rs : List Int) (mk : Nat) : missS (setsS ks) rs mk = sumN (gS ks rs mk) (2 ^ rs.length) := missS_sum _ _ _
def allP (ks : List Key) (mk s i : Nat) : Bool := (List.range i).all fun q => !(mk.testBit q) || missB (ks.getD q ⟨[]⟩).comps (atomsS ks) s
theorem allP_succ (ks : List Key) (mk s i : Nat) : allP ks mk s (i + 1) = (allP ks mk s i && (!(mk.testBit i) || missB (ks.getD i ⟨[]⟩).comps (atomsS ks) s)) := by
  unfold allP; rw [List.range_succ, List.all_append]; simp
theorem missB_true {comps at_ : List Couple} {s i q : Nat} (hi : i < at_.length) (hs : s.testBit i = true) (hq : q < comps.length) (he : comps[q] = at_[i]) : missB comps at_ s = true := by
  unfold missB
  refine List.any_eq_true.2 ⟨i, List.mem_range.2 hi, ?_⟩
  rw [hs, Bool.true_and]
  exact List.any_eq_true.2 ⟨comps[q], List.getElem_mem hq, by simp [hi, he]⟩
theorem missB_false {comps at_ : List Couple} {s : Nat} (h : ∀ i (hi : i < at_.length), s.testBit i = true → ∀ q (hq : q < comps.length), comps[q] ≠ at_[i]) : missB comps at_ s = false := by
  apply Bool.eq_false_iff.2
  intro ht
  unfold missB at ht
  obtain ⟨i, hi, h1⟩ := List.any_eq_true.1 ht
  have hi' := List.mem_range.1 hi
  rw [Bool.and_eq_true] at h1
  obtain ⟨c, hc, h2⟩ := List.any_eq_true.1 h1.2
  obtain ⟨q, hq, rfl⟩ := List.mem_iff_getElem.1 hc
  rw [List.getElem?_eq_getElem hi', decide_eq_true_eq] at h2
  exact h i hi' h1.1 q hq (Option.some.inj h2)
/-- The place of the best mask. -/
def pb (bm : Option Nat) : Int := match bm with | none => -1 | some m => (m : Int)
theorem pb_none {bm : Option Nat} (h : ¬ bm.isSome = true) : pb bm < 0 := by cases bm with | none => decide | some m => simp at h
theorem pb_some {f q : Nat → Int} {ps : List Int} {budget : Int} {n : Nat} (hn : n ≤ ps.length) (h : (bestS f (qS ps) budget n).isSome = true) :
    0 ≤ pb (bestS f (qS ps) budget n) ∧ pb (bestS f (qS ps) budget n) < ps.length ∧ ∀ h2 : (pb (bestS f (qS ps) budget n)).toNat < ps.length, ps[(pb (bestS f (qS ps) budget n)).toNat] = pq (qS ps) (bestS f (qS ps) budget n) := by
  have hs := (bestS_spec f (qS ps) budget n).1
  cases hb : bestS f (qS ps) budget n with
  | none => rw [hb] at h; simp at h
  | some m =>
    obtain ⟨a, _, _⟩ := hs m hb
    refine ⟨by simp [pb], by simp only [pb]; omega, fun h2 => ?_⟩
    simp only [pb, Int.toNat_natCast, pq, qS, List.getD_eq_getElem?_getD, List.getElem?_eq_getElem (show m < ps.length by omega), Option.getD_some]
theorem missE_pair (ks : List Key) (rs : List Int) (mask : Int) : ∃ x e : Int, missE ks rs mask = .tuple #[.int .i64 x, .int .i64 e] := by
  unfold missE
  split
  · exact ⟨_, _, rfl⟩
  · split
    · exact ⟨_, _, rfl⟩
    · exact ⟨_, _, rfl⟩
section
variable {P : Program} {N : Nat} {env : Env} {w : World} {x y : Operand} {t : TypeId} {m n : Int}
theorem val_min (hx : ev env x = some (.int .i64 m)) (hy : ev env y = some (.int .i64 n)) (ht : P.underlying t = some (.int .i64)) :
    Val P N env (.call { callee := .builtin .min, args := #[x, y], argTypes := #[t, t] }) w (.int .i64 (min m n)) := mk' fun ρ hρ o ho => by
  unfold execOp; rw [ho]
  simp [hρ _ _ hx, hρ _ _ hy, go_sem, resolve, invoke, builtin, Builtin.min_, Builtin.min2]
  by_cases h : n < m
  · rw [if_pos h]; exact (Int.min_eq_right (by omega)).symm
  · rw [if_neg h]; exact (Int.min_eq_left (by omega)).symm
end
/-- What the row's types read as. -/
theorem key_of {w : World} {M : Nat → Prop} {l : List Couple} {cs : List Value} (h : rep w.heap M l cs) : rep w.heap M (⟨l⟩ : Key) cs := h
end Go.K
