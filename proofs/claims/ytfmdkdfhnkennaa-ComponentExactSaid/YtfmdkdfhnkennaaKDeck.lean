/- The deck: plain. -/
import Derived.Test.YtfmdkdfhnkennaaKApi
set_option linter.unusedVariables false
set_option linter.unusedSimpArgs false
namespace Go.K
open Rep

/-- A deck of numbers: what is left is dealt, then it goes on by itself. -/
structure Dk where
  list : List Int
  at_ : Nat
  state : Int

/-- The number that goes into the next word. -/
def Dk.x (d : Dk) : Int := if h : d.at_ < d.list.length then IntKind.u64.wrap d.list[d.at_] else 0
def mix (s x : Int) : Int := IntKind.u64.wrap (IntKind.u64.wrap (IntKind.u64.wrap (s + x) * 6364136223846793005) + 1442695040888963407)
def stir1 (s : Int) : Int := bitsOf .xor .u64 s (s.fdiv (2 ^ min (33 : Int).toNat IntKind.u64.bits))
def stir2 (y : Int) : Int := bitsOf .xor .u64 y (y.fdiv (2 ^ min (29 : Int).toNat IntKind.u64.bits))
/-- The deck behind a word. -/
def Dk.next (d : Dk) : Dk := { list := d.list, at_ := if d.at_ < d.list.length then d.at_ + 1 else d.at_, state := mix d.state d.x }
def Dk.word (d : Dk) : Int := stir2 (IntKind.u64.wrap (stir1 d.next.state * 18397679294719823053))

theorem wrap_u64_range (n : Int) : 0 ≤ IntKind.u64.wrap n ∧ IntKind.u64.wrap n < 18446744073709551616 := by
  have h : IntKind.u64.wrap n = n % 18446744073709551616 := by simp [IntKind.wrap, IntKind.signed, IntKind.bits]
  rw [h]; exact ⟨Int.emod_nonneg _ (by decide), Int.emod_lt_of_pos _ (by decide)⟩
theorem Dk.word_range (d : Dk) : 0 ≤ d.word ∧ d.word < 18446744073709551616 := wrap_u64_range _

/-- What 'Next(n)' deals: from 0 to n - 1. -/
def Dk.num (d : Dk) (n : Int) : Int := if n < 1 then 0 else (d.word / 2) % n
def Dk.after (d : Dk) (n : Int) : Dk := if n < 1 then d else d.next
theorem Dk.num_range (d : Dk) {n : Int} (h : 1 ≤ n) : 0 ≤ d.num n ∧ d.num n < n := by
  unfold Dk.num; rw [if_neg (by omega)]
  exact ⟨Int.emod_nonneg _ (by omega), Int.emod_lt_of_pos _ (by omega)⟩

theorem Dk.after_list (d : Dk) (n : Int) : (d.after n).list = d.list := by unfold Dk.after; split <;> rfl
/-- A deck lies at block `b`, which bears the colour `i`; `t` is its type. -/
def DeckAt (t : TypeId) (w : World) (C : Nat → Nat) (i b : Nat) (d : Dk) : Prop :=
  d.at_ ≤ d.list.length ∧ ∃ v, RV w (Mc C) d.list v ∧ OwnB w C i b (.cells [v, .int .i64 d.at_, .int .u64 d.state].toArray t)

section
variable {t : TypeId} {w w' : World} {C C' : Nat → Nat} {i b : Nat} {d : Dk} {I : List Nat}
theorem DeckAt.st (h : DeckAt t w C i b d) (hs : Stp I w C w' C') (h0 : 0 ∉ I) (hi : i ∉ I) : DeckAt t w' C' i b d := by
  obtain ⟨h1, v, h2, h3⟩ := h
  exact ⟨h1, v, h2.st hs h0, h3.st hs hi⟩
theorem DeckAt.col2 (h : DeckAt t w C i b d) (hi : i ≠ 0) : DeckAt t w (col2 C i) 2 b d := by
  obtain ⟨h1, v, h2, h3⟩ := h
  exact ⟨h1, v, by rw [Mc_col2]; exact h2, h3.col2 hi⟩
theorem DeckAt.frz (h : DeckAt t w C i b d) {n : Nat} (hi : i < n) : DeckAt t w (K.frz n C) i b d := by
  obtain ⟨h1, v, h2, h3⟩ := h
  exact ⟨h1, v, h2.frz n, h3.frz hi⟩
/-- Back into the caller's colours. -/
theorem DeckAt.out {w₀ : World} {C₀ : Nat → Nat} (h : DeckAt t w' C' 2 b d) (hs : Stp I w₀ (K.col2 C₀ i) w' C') (hF : Lim w₀ C₀) (hb : C₀ b = i) : DeckAt t w' C₀ i b d := by
  obtain ⟨h1, v, h2, h3⟩ := h
  exact ⟨h1, v, h2.out hs hF (Mc_col2 C₀ i), ⟨hb, h3.at_⟩⟩
end
end Go.K
