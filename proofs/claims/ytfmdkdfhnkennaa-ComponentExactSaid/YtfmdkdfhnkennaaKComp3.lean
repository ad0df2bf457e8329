/- The bonds that a deck deals. -/
import Derived.Test.YtfmdkdfhnkennaaKComp2
set_option linter.unusedVariables false
set_option linter.unusedSimpArgs false
namespace Go.K
open Rep

theorem asc_len {α : Type} (f : α → Nat) (N : Nat) : ∀ (l : List α) (lo : Nat), l.Pairwise (fun x y => f x < f y) → (∀ x ∈ l, lo ≤ f x ∧ f x < N) → l.length ≤ N - lo
  | [], _, _, _ => Nat.zero_le _
  | x :: l, lo, hp, h => by
    obtain ⟨h1, h2⟩ := List.pairwise_cons.1 hp
    have hx := h x (by simp)
    have ih := asc_len f N l (f x + 1) h2 (fun y hy => ⟨h1 y hy, (h y (by simp [hy])).2⟩)
    simp only [List.length_cons]; omega
/-- A bond between registries below `R` with IDs up to `I`. -/
def okR (R I : Nat) (x : Bond) : Prop := 0 ≤ x.A.a ∧ x.A.a < x.B.a ∧ x.B.a < R ∧ 1 ≤ x.A.b ∧ x.A.b ≤ I ∧ 1 ≤ x.B.b ∧ x.B.b ≤ I ∧ 1 ≤ x.w ∧ x.w ≤ 9
def Cur (r i s k : Nat) (x : Bond) : Prop := x.A.a < r ∨ x.A.a = r ∧ (x.A.b < i ∨ x.A.b = i ∧ (x.B.a < s ∨ x.B.a = s ∧ x.B.b < k))
def Dl (R I r i s k : Nat) (l : List Bond) : Prop := (∀ x ∈ l, okR R I x ∧ Cur r i s k x) ∧ l.Pairwise lt2
def Dlt (R I : Nat) (l : List Bond) : Prop := (∀ x ∈ l, okR R I x) ∧ l.Pairwise lt2 ∧ l.length ≤ 4096
theorem Dl.nil (R I r i s k : Nat) : Dl R I r i s k [] := ⟨fun x h => by simp at h, List.Pairwise.nil⟩
theorem Dl.to {R I r i s k r' i' s' k' : Nat} {l : List Bond} (h : Dl R I r i s k l) (hc : ∀ x, okR R I x → Cur r i s k x → Cur r' i' s' k' x) : Dl R I r' i' s' k' l :=
  ⟨fun x hx => ⟨(h.1 x hx).1, hc x (h.1 x hx).1 (h.1 x hx).2⟩, h.2⟩
theorem Dl.len {R I r i s k : Nat} {l : List Bond} (h : Dl R I r i s k l) (hR : R ≤ 7) (hI : I ≤ 7) : l.length ≤ 4096 := by
  have hb : ∀ x ∈ l, okR R I x := fun x hx => (h.1 x hx).1
  have := asc_len (fun x : Bond => (x.A.a * 512 + x.A.b * 64 + x.B.a * 8 + x.B.b).toNat) 4096 l 0 (h.2.imp_of_mem fun {x y} hx hy hxy => by
    have h1 := hb x hx; have h2 := hb y hy
    unfold okR at h1 h2
    unfold lt2 ltP at hxy
    show (x.A.a * 512 + x.A.b * 64 + x.B.a * 8 + x.B.b).toNat < (y.A.a * 512 + y.A.b * 64 + y.B.a * 8 + y.B.b).toNat
    rcases hxy with (h3 | ⟨h3, h4⟩) | ⟨h3, h4 | ⟨h4, h5⟩⟩
    · omega
    · omega
    · rw [h3] at *; omega
    · rw [h3] at *; omega) (fun x hx => by
    have h1 := hb x hx
    unfold okR at h1
    show 0 ≤ _ ∧ (x.A.a * 512 + x.A.b * 64 + x.B.a * 8 + x.B.b).toNat < 4096
    omega)
  simpa using this
theorem Dl.push {R I r i s k : Nat} {l : List Bond} {q : Nat} (h : Dl R I r i s k l) (hr : r < s) (hs : s < R) (hi : 1 ≤ i ∧ i ≤ I) (hk : 1 ≤ k ∧ k ≤ I) (hq : (q : Int) < 9) : Dl R I r i s (k + 1) (l ++ [⟨⟨r, i⟩, ⟨s, k⟩, 1 + q⟩]) := by
  refine ⟨fun x hx => ?_, ?_⟩
  · rcases List.mem_append.1 hx with hx | hx
    · obtain ⟨h1, h2⟩ := h.1 x hx
      refine ⟨h1, ?_⟩
      unfold Cur at *; omega
    · simp only [List.mem_singleton] at hx; subst hx
      refine ⟨?_, ?_⟩
      · unfold okR; refine ⟨by show (0 : Int) ≤ r; omega, by show (r : Int) < s; omega, by show (s : Int) < R; omega, by show (1 : Int) ≤ i; omega, by show (i : Int) ≤ I; omega, by show (1 : Int) ≤ k; omega, by show (k : Int) ≤ I; omega, by show (1 : Int) ≤ 1 + q; omega, by show (1 : Int) + q ≤ 9; omega⟩
      · exact .inr ⟨rfl, .inr ⟨rfl, .inr ⟨rfl, by show (k : Int) < (k + 1 : Nat); omega⟩⟩⟩
  · rw [List.pairwise_append]
    refine ⟨h.2, by simp, fun x hx y hy => ?_⟩
    simp only [List.mem_singleton] at hy; subst hy
    obtain ⟨h1, h2⟩ := h.1 x hx
    unfold Cur at h2; unfold okR at h1; unfold lt2 ltP
    rcases h2 with h2 | ⟨h2, h3 | ⟨h3, h4⟩⟩
    · exact .inl (.inl h2)
    · exact .inl (.inr ⟨h2, h3⟩)
    · exact .inr ⟨couple_ext h2 h3, h4⟩
theorem Dl.fin {R I r i s k : Nat} {l : List Bond} (h : Dl R I r i s k l) (hR : R ≤ 7) (hI : I ≤ 7) : Dlt R I l := ⟨fun x hx => (h.1 x hx).1, h.2, h.len hR hI⟩
theorem Dlt.vld {R I : Nat} {l : List Bond} (h : Dlt R I l) (hR : R ≤ 4) (hI : I ≤ 7) : Vld l := ⟨h.2.2, fun x hx => by
  have h1 := h.1 x hx
  unfold okR at h1
  refine ⟨?_, by omega, by omega⟩
  unfold cplOK refOK
  simp only [Bool.and_eq_true, decide_eq_true_eq]
  omega, h.2.1⟩
end Go.K
