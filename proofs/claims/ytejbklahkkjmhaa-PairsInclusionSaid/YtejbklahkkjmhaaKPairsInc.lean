/- Inclusion and exclusion: plain. -/
import Derived.Test.YtejbklahkkjmhaaKPairsLaw
set_option linter.unusedVariables false
set_option linter.unusedSimpArgs false
namespace Go.K
open Rep

/-- The sign of a part, after so many bits. -/
def sg (part : Nat) : Nat → Int
  | 0 => -1
  | i + 1 => if part.testBit i = true then - sg part i else sg part i
/-- The sum over the parts up to `k` that lie in `M`. -/
def accI (a b : List (List Block)) (M n : Nat) : Nat → Int
  | 0 => 0
  | k + 1 => if (k + 1) &&& M = k + 1 then accI a b M n k + sg (k + 1) n * (agreeS a b (k + 1) : Nat) else accI a b M n k
/-- What one couple gives to it. -/
def oneI (m M n : Nat) : Nat → Int
  | 0 => 0
  | k + 1 => if (k + 1) &&& M = k + 1 then oneI m M n k + sg (k + 1) n * (if m &&& (k + 1) = k + 1 then 1 else 0) else oneI m M n k
theorem filter_sum {γ : Type} (p : γ → Bool) (l : List γ) : ((l.filter p).length : Int) = (l.map fun x => if p x = true then (1 : Int) else 0).sum := by
  induction l with
  | nil => rfl
  | cons a l ih =>
    rw [List.filter_cons, List.map_cons, List.sum_cons, ← ih]
    split
    · simp; omega
    · simp
theorem sumI_add {γ : Type} (f g : γ → Int) (l : List γ) : (l.map fun x => f x + g x).sum = (l.map f).sum + (l.map g).sum := by
  induction l with
  | nil => rfl
  | cons a l ih => simp only [List.map_cons, List.sum_cons, ih]; omega
theorem sumI_mul {γ : Type} (c : Int) (f : γ → Int) (l : List γ) : (l.map fun x => c * f x).sum = c * (l.map f).sum := by
  induction l with
  | nil => simp
  | cons a l ih => simp only [List.map_cons, List.sum_cons, ih, Int.mul_add]
theorem sumI_zero {γ : Type} (l : List γ) : (l.map fun _ => (0 : Int)).sum = 0 := by induction l <;> simp_all
theorem accI_sum (a b : List (List Block)) (M n : Nat) : ∀ k, accI a b M n k = ((agrI a b a.length).map fun p => oneI p.2 M n k).sum
  | 0 => by simp only [accI, oneI]; exact (sumI_zero _).symm
  | k + 1 => by
    unfold accI oneI
    split
    · rw [sumI_add, sumI_mul, accI_sum a b M n k]
      congr 2
      unfold agreeS
      rw [filter_sum]
      congr 1
      apply List.map_congr_left
      intro p _
      unfold alls
      simp
    · exact accI_sum a b M n k
theorem sg_val (part : Nat) : ∀ n, sg part n = 1 ∨ sg part n = -1
  | 0 => .inr rfl
  | n + 1 => by
    unfold sg
    rcases sg_val part n with h | h <;> split <;> omega
theorem oneI_bound (m M n : Nat) : ∀ k : Nat, -(k : Int) ≤ oneI m M n k ∧ oneI m M n k ≤ k
  | 0 => by simp [oneI]
  | k + 1 => by
    have ih := oneI_bound m M n k
    unfold oneI
    split
    · rcases sg_val (k + 1) n with h | h <;> rw [h] <;> split <;> omega
    · omega
theorem accI_bound (a b : List (List Block)) (M n k : Nat) : -((k * (agrI a b a.length).length : Nat) : Int) ≤ accI a b M n k ∧ accI a b M n k ≤ ((k * (agrI a b a.length).length : Nat) : Int) := by
  rw [accI_sum]
  generalize agrI a b a.length = l
  induction l with
  | nil => simp
  | cons p l ih =>
    have h := oneI_bound p.2 M n k
    simp only [List.map_cons, List.sum_cons, List.length_cons, Nat.mul_succ]
    omega
theorem incl : ∀ n, n < 5 → ∀ M, M < 2 ^ n → ∀ m, m < 2 ^ n → oneI m M n M = if m &&& M ≠ 0 then 1 else 0 := by decide +kernel
theorem agr_small {a b : List (List Block)} {n : Nat} {p : Couple × Nat} (h : p ∈ agrI a b n) : p.2 < 2 ^ n := by
  have hv := mget_mem (agrI_nodup a b n) h
  refine Nat.lt_pow_two_of_testBit _ (fun k hk => ?_)
  have hb := bit_agrI a b p.1 k n
  unfold bit at hb
  rw [hv, Option.getD_some, decide_eq_false (by omega), Bool.false_and] at hb
  exact hb
theorem accI_all (a b : List (List Block)) {M n : Nat} (ha : a.length = n) (hn : n < 5) (hM : M < 2 ^ n) : accI a b M n M = ((listS a b M).length : Int) := by
  unfold listS
  rw [(sortC_perm _).length_eq, List.length_map, filter_sum, accI_sum]
  congr 1
  apply List.map_congr_left
  intro p hp
  rw [incl n hn M hM p.2 (by rw [← ha]; exact agr_small hp)]
  unfold hits
  simp
end Go.K
