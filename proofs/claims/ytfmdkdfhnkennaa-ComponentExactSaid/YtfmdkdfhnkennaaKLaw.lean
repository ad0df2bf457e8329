/- From the row's reading of an argument to what the steps ask. -/
import Derived.Test.YtfmdkdfhnkennaaK5
import Derived.WalkKit
import Derived.ProofKit
import Derived.OpenShut
import Derived.ChangeSlices
import Derived.Below
import Derived.Carry
set_option linter.unusedVariables false
namespace Go.K
open Rep
/-- Nobody writes anything that stood at the start. -/
def C0 : Nat → Nat := fun _ => 0
theorem lim0 (w : World) : Lim w C0 := fun b h => absurd rfl h
theorem Stp.below {w w' : World} (h : Stp [] w C0 w' C0) : Go.RowKit.Below w.heap.size w w' := h.ext.below (Nat.le_refl _) (fun b hb => by simp at hb)

theorem rv_ints {H : Type} {enc : TypeId × Value → H} {P : Program} {w : World} {base : Nat} {spare : Nat → Bool} {held : Bool} {t e : TypeId} {a0 : Option Addr} {len cap fuel : Nat} {x : DataW H × List MemPlace}
    (ht : P.underlying t = some (.slice e)) (he : P.underlying e = some (.int .i64)) (hc : P.cellsOf e = 1) (hspare : ∀ b, spare b = true)
    (h : DataW.trod enc P w base spare held fuel t [.slice a0 len cap] = some x) : ∃ l : List Int, RV w (Mc C0) l (.slice a0 len cap) := by
  rcases Go.ChangeShapes.open_ints ht he hc h with ⟨hcs, hx⟩ | ⟨a, len', cap', zs, hcs, _, hl, hm, hz, hx, hcell, hwz⟩
  · simp at hcs
    obtain ⟨rfl, rfl, rfl⟩ := hcs
    exact ⟨[], rv_nil⟩
  · simp at hcs
    obtain ⟨rfl, rfl, rfl⟩ := hcs
    rw [hspare, if_pos rfl] at hz
    have hlt : (zs.take len).length = len := by rw [List.length_take]; omega
    refine ⟨zs.take len, rv_list.2 ⟨some a, cap, by rw [hlt], by omega, by unfold maxLen at hm; omega, ?_⟩⟩
    by_cases h0 : len = 0
    · left; subst h0; simp
    · right
      obtain ⟨b, off, spot⟩ := a
      have hspot : spot = none := by simpa [Addr.add] using World.cell?_spot (hcell 0 (by omega))
      subst hspot
      refine ⟨b, off, rfl, ?_⟩
      have hg : ∀ j (hj : j < zs.length), w.cell? ⟨b, off + j, none⟩ = some (.int .i64 zs[j]) := fun j hj => by
        have := hcell j hj
        rw [List.getD_eq_getElem?_getD, List.getElem?_eq_getElem hj, Option.getD_some] at this
        rwa [addr_add] at this
      have h1 := hg 0 (by omega)
      unfold World.cell? at h1
      simp only at h1
      cases hb : w.heap[b]? with
      | none => rw [hb] at h1; cases h1
      | some ob =>
        cases ob with
        | cells c ty fz =>
          have hcs : ∀ j (hj : j < zs.length), c[off + j]? = some (.int .i64 zs[j]) := fun j hj => by
            have h2 := hg j hj
            unfold World.cell? at h2
            simp only [hb] at h2
            simpa using h2
          refine ⟨fun h => h rfl, c, ty, fz, hb, ?_, fun i hi => ?_⟩
          · rw [hlt]
            have := (Array.getElem?_eq_some_iff.1 (hcs (len - 1) (by omega))).1
            show off + len * 1 ≤ _
            omega
          · have h3 := hcs i (by rw [hlt] at hi; omega)
            show cellsAt c (off + i * 1) 1 = [.int .i64 (zs.take len)[i]]
            rw [Nat.mul_one, List.getElem_take]
            apply List.ext_getElem?
            intro r
            simp only [cellsAt, List.getElem?_take, List.getElem?_drop, Array.getElem?_toList]
            match r with
            | 0 => simpa using h3
            | r + 1 => simp
        | _ => rw [hb] at h1; cases h1
end Go.K
