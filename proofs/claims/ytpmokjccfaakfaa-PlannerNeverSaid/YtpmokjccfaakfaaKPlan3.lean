/- A key of its own. -/
import Derived.Test.YtpmokjccfaakfaaKPlan2
set_option linter.unusedVariables false
set_option linter.unusedSimpArgs false
namespace Go.K
open Rep

/-! ### A key of its own -/
def nvK : Key := ⟨[⟨9, 1⟩]⟩
theorem nv_len {ks : List Key} (h : ∀ k ∈ ks, k.comps.length ≤ 3 ∧ ∀ c ∈ k.comps, 0 ≤ c.a ∧ c.a < 4 ∧ 1 ≤ c.b ∧ c.b ≤ 2) : (atomsS (ks ++ [nvK])).length ≤ 9 := by
  let f : Couple → Nat := fun c => if c.a = 9 then 8 else c.a.toNat * 2 + (c.b.toNat - 1)
  have hin : ∀ c ∈ atomsS (ks ++ [nvK]), (0 ≤ c.a ∧ c.a < 4 ∧ 1 ≤ c.b ∧ c.b ≤ 2) ∨ (c.a = 9 ∧ c.b = 1) := fun c hc => by
    obtain ⟨k, hk, hck⟩ := atomsS_mem.1 hc
    rcases List.mem_append.1 hk with hk | hk
    · exact .inl ((h k hk).2 c hck)
    · rw [List.mem_singleton.1 hk] at hck
      simp only [nvK, List.mem_singleton] at hck
      rw [hck]; exact .inr ⟨rfl, rfl⟩
  have hf : ((atomsS (ks ++ [nvK])).map f).Nodup := by
    have hn := atomsS_nodup (ks ++ [nvK])
    rw [List.nodup_iff_pairwise_ne, List.pairwise_map]
    rw [List.nodup_iff_pairwise_ne] at hn
    refine hn.imp_of_mem (fun {x y} hx hy hne e => hne ?_)
    have h1 := hin x hx; have h2 := hin y hy
    have e' : (if x.a = 9 then 8 else x.a.toNat * 2 + (x.b.toNat - 1)) = (if y.a = 9 then 8 else y.a.toNat * 2 + (y.b.toNat - 1)) := e
    have ea : x.a = y.a := by split at e' <;> split at e' <;> omega
    have eb : x.b = y.b := by split at e' <;> split at e' <;> omega
    cases x; cases y; simp only at ea eb; rw [ea, eb]
  have := nodup_le 9 _ hf (fun y hy => by
    obtain ⟨x, hx, rfl⟩ := List.mem_map.1 hy
    have h1 := hin x hx
    show (if x.a = 9 then 8 else x.a.toNat * 2 + (x.b.toNat - 1)) < 9
    split <;> omega)
  simpa using this
theorem nv_set {ks : List Key} : ∃ j : Nat, (setsS (ks ++ [nvK])).getD ks.length 0 = 2 ^ j ∧ ∃ h : j < (atomsS (ks ++ [nvK])).length, (atomsS (ks ++ [nvK]))[j].a = 9 := by
  have hmem : (⟨9, 1⟩ : Couple) ∈ atomsS (ks ++ [nvK]) := atomsS_mem.2 ⟨nvK, by simp, by simp [nvK]⟩
  obtain ⟨j, hj, hjl, hjc⟩ := idxOf_mem hmem
  refine ⟨j, ?_, hjl, by rw [hjc]⟩
  unfold setsS
  rw [List.getD_eq_getElem?_getD, List.getElem?_map, List.getElem?_append_right (Nat.le_refl _)]
  simp only [Nat.sub_self, List.getElem?_cons_zero, Option.map_some, Option.getD_some, nvK, setS, List.foldl_cons, List.foldl_nil, Nat.zero_or]
  unfold bitN
  rw [show atomsS (ks ++ [{ comps := [⟨9, 1⟩] }]) = atomsS (ks ++ [nvK]) from rfl, hj, Int.toNat_natCast]
theorem nv_zero {ks : List Key} {ys : List Int} {mask : Nat} (hl : ys.length = (atomsS (ks ++ [nvK])).length)
    (hy : ∀ p (h1 : p < ys.length) (h2 : p < (atomsS (ks ++ [nvK])).length), (atomsS (ks ++ [nvK]))[p].a = 9 → ys[p] = 0) : missS (setsS (ks ++ [nvK])) ys (mask ||| 2 ^ ks.length) = 0 := by
  obtain ⟨j, hs, hjl, ha⟩ := nv_set (ks := ks)
  exact missS_never (n := ks.length) (j := j) (by simp [setsS]) (by rw [Nat.testBit_or, Nat.testBit_two_pow_self, Bool.or_true]) hs (by omega) (hy j (by omega) hjl ha)
theorem nv_same {ks : List Key} {zs : List Int} {mask : Nat} (hl : zs.length = (atomsS (ks ++ [nvK])).length)
    (hz : ∀ p (h1 : p < zs.length) (h2 : p < (atomsS (ks ++ [nvK])).length), (atomsS (ks ++ [nvK]))[p].a = 9 → zs[p] = 64) : missS (setsS (ks ++ [nvK])) zs (mask ||| 2 ^ ks.length) = missS (setsS (ks ++ [nvK])) zs mask := by
  obtain ⟨j, hs, hjl, ha⟩ := nv_set (ks := ks)
  exact missS_as_none (n := ks.length) (j := j) (by simp [setsS]) hs (by omega) (hz j (by omega) hjl ha)
theorem upd_keep {i p : Nat} (e : ¬ i = p) {A : Prop} [Decidable A] (t x : Int) : (if p < i ∧ A then t else x) = if p < i + 1 ∧ A then t else x := by
  by_cases h : p < i ∧ A
  · rw [if_pos h, if_pos ⟨by omega, h.2⟩]
  · rw [if_neg h, if_neg (fun h' => h ⟨by omega, h'.2⟩)]
theorem upd_self {i : Nat} {A : Prop} [Decidable A] (ha : ¬ A) (t x : Int) : (if i < i ∧ A then t else x) = if i < i + 1 ∧ A then t else x := by
  rw [if_neg (fun h => ha h.2), if_neg (fun h => ha h.2)]
theorem upd_new {i : Nat} {A : Prop} [Decidable A] (ha : A) (t x : Int) : t = if i < i + 1 ∧ A then t else x := by rw [if_pos ⟨Nat.lt_succ_self _, ha⟩]
end Go.K
