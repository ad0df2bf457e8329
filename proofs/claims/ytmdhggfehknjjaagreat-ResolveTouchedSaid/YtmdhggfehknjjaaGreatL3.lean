/- From the row's reading of an argument, of whatever make, to what the steps ask. -/
import Derived.Test.YtmdhggfehknjjaaGreatL2
import Derived.Test.YtmdhggfehknjjaaGreatL1
import Derived.Deep.Slices
import Derived.WideShapes
import Derived.ChangeArms
set_option linter.unusedVariables false
set_option linter.unusedSimpArgs false
set_option linter.unusedSectionVars false
namespace Go.K
open Rep
def Opens {H : Type} (enc : TypeId × Value → H) (P : Program) (w : World) (base : Nat) (spare : Nat → Bool) (held : Bool) (α : Type) [Rep α] (t : TypeId) : Prop :=
  P.cellsOf t = sz α ∧ ∀ (fuel : Nat) (cs : List Value) (x : DataW H × List MemPlace), DataW.trod enc P w base spare held fuel t cs = some x → ∃ a : α, rep w.heap (Mc Cn0) a cs
section
variable {H : Type} {enc : TypeId × Value → H} {P : Program} {w : World} {base : Nat} {spare : Nat → Bool} {held : Bool} {α β γ : Type} [Rep α] [Rep β] [Rep γ] {t e : TypeId}
theorem opens_int (ht : P.underlying t = some (.int .i64)) (hc : P.cellsOf t = 1) : Opens enc P w base spare held Int t := ⟨hc, fun fuel cs x h => by
  obtain ⟨n, rfl, _⟩ := DataW.trod_int ht h
  exact ⟨n, rfl⟩⟩
theorem opens_slice (ht : P.underlying t = some (.slice e)) (hc : P.cellsOf t = 1) (hsz : 0 < sz α) (he : Opens enc P w base spare held α e) : Opens enc P w base spare held (List α) t := ⟨hc, fun fuel cs x h => by
  rcases Go.Deep.open_slice ht h with ⟨rfl, _⟩ | ⟨a, len, cap, m, n, D, Pl, rfl, hb, hl, hm, hmm, hx, hcell⟩
  · exact ⟨[], none, 0, rfl, Nat.le_refl _, by simp, .inl rfl⟩
  · have hlm : len ≤ m := by rw [hmm]; split <;> omega
    have key : ∀ k, k ≤ len → ∃ xs : List α, xs.length = k ∧ ∀ i (hi : i < xs.length), ∃ cs', w.cells? base (a.add (i * sz α)) (sz α) = some cs' ∧ rep w.heap (Mc Cn0) xs[i] cs' := by
      intro k
      induction k with
      | zero => exact fun _ => ⟨[], rfl, fun i hi => by simp at hi⟩
      | succ k ih =>
        intro hk
        obtain ⟨xs, hxl, hxs⟩ := ih (by omega)
        obtain ⟨cs', h1, h2⟩ := hcell k (by omega)
        obtain ⟨y, hy⟩ := he.2 _ _ _ h2
        rw [he.1] at h1
        refine ⟨xs ++ [y], by simp [hxl], fun i hi => ?_⟩
        by_cases hik : i < xs.length
        · rw [List.getElem_append_left hik]; exact hxs i hik
        · have hik2 : i = k := by simp at hi; omega
          subst hik2
          rw [List.getElem_append_right (by omega)]
          exact ⟨cs', h1, by simpa [hxl] using hy⟩
    obtain ⟨xs, hxl, hxs⟩ := key len (Nat.le_refl _)
    refine ⟨xs, some a, cap, by rw [hxl], by omega, by unfold maxLen at hm; omega, ?_⟩
    by_cases h0 : len = 0
    · left; exact List.length_eq_zero_iff.1 (by omega)
    · right
      have hall : ∀ i (hi : i < xs.length), ∃ cs', cs'.length = sz α ∧ (∀ j (hj : j < cs'.length), w.cell? (a.add (i * sz α + j)) = some cs'[j]) ∧ rep w.heap (Mc Cn0) xs[i] cs' := fun i hi => by
        obtain ⟨cs', h1, h2⟩ := hxs i hi
        obtain ⟨_, h3, h4⟩ := World.cells?_some h1
        refine ⟨cs', h3, fun j hj => ?_, h2⟩
        have h5 := h4 j (by omega)
        rw [Addr.add_add] at h5
        rw [h5]; exact List.getElem?_eq_getElem hj
      obtain ⟨c0, hc0l, hc0, _⟩ := hall 0 (by omega)
      have hfirst := hc0 0 (by omega)
      obtain ⟨b, off, spot⟩ := a
      have hspot : spot = none := by simpa [Addr.add] using World.cell?_spot hfirst
      subst hspot
      refine ⟨b, off, rfl, ?_⟩
      simp only [addr_add] at hall hfirst
      unfold World.cell? at hfirst
      simp only at hfirst
      cases hbk : w.heap[b]? with
      | none => rw [hbk] at hfirst; cases hfirst
      | some ob =>
        cases ob with
        | cells c ty fz =>
          have hget : ∀ i (hi : i < xs.length), ∃ cs', cs'.length = sz α ∧ (∀ j (hj : j < cs'.length), c[off + (i * sz α + j)]? = some cs'[j]) ∧ rep w.heap (Mc Cn0) xs[i] cs' := fun i hi => by
            obtain ⟨cs', h1, h2, h3⟩ := hall i hi
            refine ⟨cs', h1, fun j hj => ?_, h3⟩
            have h4 := h2 j hj
            unfold World.cell? at h4
            simp only [hbk] at h4
            simpa using h4
          refine ⟨fun h => h rfl, c, ty, fz, hbk, ?_, fun i hi => ?_⟩
          · obtain ⟨cs', h1, h2, _⟩ := hget (len - 1) (by omega)
            have h3 := (Array.getElem?_eq_some_iff.1 (h2 (sz α - 1) (by omega))).1
            have h4 : len * sz α = (len - 1) * sz α + sz α := by
              have : len = (len - 1) + 1 := by omega
              rw [this, Nat.succ_mul]; simp
            rw [hxl, h4]; omega
          · obtain ⟨cs', h1, h2, h3⟩ := hget i hi
            have : cellsAt c (off + i * sz α) (sz α) = cs' := by
              apply List.ext_getElem?
              intro r
              simp only [cellsAt, List.getElem?_take, List.getElem?_drop, Array.getElem?_toList]
              by_cases hr : r < sz α
              · rw [if_pos hr, List.getElem?_eq_getElem (by omega), Nat.add_assoc]; exact h2 r (by omega)
              · rw [if_neg hr, List.getElem?_eq_none (by omega)]
            rw [this]; exact h3
        | _ => rw [hbk] at hfirst; cases hfirst⟩
theorem Opens.rv (h : Opens enc P w base spare held α t) (hx : Rep.agg α = false) {fuel : Nat} {v : Value} {x : DataW H × List MemPlace} (ht : DataW.trod enc P w base spare held fuel t [v] = some x) : ∃ a : α, RV w (Mc Cn0) a v := by
  obtain ⟨a, ha⟩ := h.2 _ _ _ ht
  exact ⟨a, rep1_rv ha hx⟩
end
end Go.K
