/- Handing out what the call may still write. -/
import Derived.Test.YtfmdkdfhnkennaaKA
set_option linter.unusedVariables false
set_option linter.unusedSimpArgs false
namespace Go.K
open Rep

/-! ### Handing out what the call may still write -/
section
variable {α : Type} [Rep α] {w w' : World} {C C1 D D' : Nat → Nat} {I : List Nat} {e : TypeId} {v : Value} {ys : List α} {x : α} {j j1 i b : Nat} {t : TypeId}
/-- An own list gets a colour that the caller knows. -/
theorem OwnL.give (h : OwnL w' C1 j1 e v ys) (hs : Stp I w D w' C1) (hF : Lim w C) (hD : Mc D = Mc C) (hj : ∀ b, b < w.heap.size → D b ≠ j1) (h1 : j1 ≠ 0) (j : Nat) (hjj : j ≠ 0) :
    ∃ C', (∀ b, b < w.heap.size → C' b = C b) ∧ Lim w' C' ∧ (∀ b, Mc C' b → Mc C1 b) ∧ OwnL w' C' j e v ys := by
  have old : ∀ b, Mc C b → Mc C1 b := fun b hb => by
    have hlt := hF b hb
    unfold Mc
    rw [hs.col b hlt]
    have : Mc D b := by rw [hD]; exact hb
    exact this
  have fresh : ∀ b, Ob v b → ¬ b < w.heap.size := fun b hb hlt => hj b hlt (by rw [← hs.col b hlt]; exact h.col b hb)
  refine ⟨setB C v j, fun b hb => ?_, fun b hb => ?_, fun b hb => ?_, ⟨h.own.sub (fun b _ hb => ?_) (fun b hb => ?_), fun b hb => ?_⟩⟩
  · unfold setB; rw [if_neg (show ¬ v.ownBlock = some b from fun e => fresh b e hb)]
  · by_cases ho : Ob v b
    · exact (h.own.ob b ho).2
    · unfold setB at hb; rw [if_neg (show ¬ v.ownBlock = some b from ho)] at hb
      exact Nat.lt_of_lt_of_le (hF b hb) hs.size
  · by_cases ho : Ob v b
    · unfold Mc; rw [h.col b ho]; exact h1
    · unfold Mc setB at hb; rw [if_neg (show ¬ v.ownBlock = some b from ho)] at hb; exact old b hb
  · by_cases ho : Ob v b
    · unfold Mc; rw [h.col b ho]; exact h1
    · unfold Mc setB at hb; rw [if_neg (show ¬ v.ownBlock = some b from ho)] at hb; exact old b hb
  · unfold Mc setB; rw [if_pos (show v.ownBlock = some b from hb)]; exact hjj
  · unfold setB; rw [if_pos (show v.ownBlock = some b from hb)]
theorem Stp.give {C' : Nat → Nat} (h : Stp I w C w' D') (hc : ∀ b, b < w.heap.size → C' b = C b) : Stp I w C w' C' := ⟨h.ext, hc⟩
/-- Where nothing turned, other colours do not matter. -/
theorem Stp.unfrz (h : Stp [] w D w' D') (C : Nat → Nat) : Stp [] w C w' C := ⟨h.ext.mono (fun b _ hb => (by cases hb)), fun _ _ => rfl⟩
theorem RV.give {C' : Nat → Nat} (h : RV w' (Mc C1) x v) (hM : ∀ b, Mc C' b → Mc C1 b) : RV w' (Mc C') x v := h.sub (fun b _ hb => hM b hb)
end
end Go.K
