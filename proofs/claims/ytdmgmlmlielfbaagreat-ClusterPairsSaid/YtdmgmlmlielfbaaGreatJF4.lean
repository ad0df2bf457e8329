/- Steps through functions of the program. -/
import Derived.Test.YtdmgmlmlielfbaaGreatJF3
import Derived.Test.YtdmgmlmlielfbaaGreatJC3
set_option linter.unusedVariables false
set_option linter.unusedSimpArgs false
set_option maxRecDepth 100000
set_option maxHeartbeats 4000000
namespace Go.Proofs.YtdmgmlmlielfbaaGreat
open Go.K Go.K.Rep
noncomputable section
theorem low_new {I : List Nat} {w w' : World} {C C' : Nat → Nat} {b : Nat} {ob : Obj} (hT : Stp I w (col1 C) w' C') (hF : Lim w C) (hb : OwnB w' C' 3 b ob) : Low w' C b ob := by
  refine ⟨?_, hb.at_⟩
  by_cases h : C b = 0
  · omega
  have h1 := hT.col b (hF b h)
  have h2 := col1_lt C (show 1 < 3 by decide) b
  rw [hb.col] at h1; omega
namespace F83
def c0 := bodyOf Tryz.f83
end F83
theorem values_ok {w₀ : World} {C : Nat → Nat} {xs : List Couple} {px : Value} (hF : Lim w₀ C) (hx : RV w₀ (Mc C) xs px) : Calls Tryz.prog 83 #[px] w₀ (Ret fun v w' => ∃ b1, v = .func (.func 120) #[] #[.pointer (some ⟨b1, 0, none⟩)] ∧ Stp [] w₀ C w' C ∧ Low w' C b1 (.cells [px].toArray 53)) := by
 have hF0 := hF
 have hT := Stp.refl [2, 3, 4, 5, 6, 7, 8, 9] w₀ (col1 C)
 replace hF := hF.col1
 replace hx := hx.c1
 refine c_st F83.c0 4 [px] Tryz.func83 ?_
 show Run _ _ _ _ [(0, px)] _ _
 refine run_sq (run_pl [nn 0, yy 1] ?_)
 refine aT (kq 1 (.box 53 (.tmp 0))) rfl rfl (a_box (cs := [px]) hF 3 rfl (hx.one rfl).1) ?_
 rintro _ w1 ⟨Cw1, bw1, rfl, s_1, hb, hF⟩
 refine yV (kq 2 (.assign (.const .nilFunc))) (fun _ => val_assign rfl) ?_
 refine Sch.nil (run_sq (run_pl [yy 0, yy 1] ?_))
 refine yV (kq 3 (.makeFunc (.func 120) #[] #[(.tmp 1)])) (fun _ => val_makeFunc rfl rfl) ?_
 refine yA 2 3 ?_
 refine Sch.nil ?_
 refine rt1 Tryz.func83 Tryz.results83 ?_
 replace hT := hT.t s_1
 exact ⟨_, rfl, hT.out1 (by decide), low_new hT hF0 hb⟩
namespace F119
def c0 := bodyOf Tryz.f119
end F119
theorem collect_ok {w₀ : World} {C : Nat → Nat} {xs : List Couple} {px : Value} {b1 : Nat} (hF : Lim w₀ C) (h1 : w₀.heap[b1]? = some (.cells [px].toArray 53)) (hx : RV w₀ (Mc C) xs px) (hlen : xs.length ≤ 100000) (j : Nat) (hj : j ≠ 0) : Calls Tryz.prog 119 #[.func (.func 120) #[] #[.pointer (some ⟨b1, 0, none⟩)]] w₀ (Ret fun v w' => ∃ C', Stp [] w₀ C w' C' ∧ Lim w' C' ∧ OwnL w' C' j 47 v xs) := by
 refine c_st F119.c0 5 [.func (.func 120) #[] #[.pointer (some ⟨b1, 0, none⟩)]] Tryz.func119 ?_
 show Run _ _ _ _ [(0, .func (.func 120) #[] #[.pointer (some ⟨b1, 0, none⟩)])] _ _
 refine run_sq (run_pl [yy 0] ?_)
 refine yV (kq 2 (.assign (.const (.slice none 0 0)))) (fun _ => val_assign rfl) ?_
 refine Sch.nil (run_sq (run_pl [yy 0, nn 1, yy 2] ?_))
 refine yM 3 0 ?_
 refine cT (kq 4 (.call { callee := .value (.func 142), args := #[(.const (.slice none 0 0)), (.tmp 3)], argTypes := #[53, 118] })) rfl rfl (ent Tryz.call142 rfl) (appendSeq_ok hF h1 hx hlen j hj) ?_
 rintro v4 w1 ⟨C4, s_1, hF4, ho⟩
 refine yA 2 4 ?_
 refine Sch.nil ?_
 refine rt1 Tryz.func119 Tryz.results119 ?_
 exact ⟨C4, s_1, hF4, ho⟩
namespace F82
def c0 := bodyOf Tryz.f82
end F82
theorem sortedF_ok {w₀ : World} {C : Nat → Nat} {xs : List Couple} {px : Value} {b1 : Nat} (hF : Lim w₀ C) (h1 : w₀.heap[b1]? = some (.cells [px].toArray 53)) (hx : RV w₀ (Mc C) xs px) (hlen : xs.length ≤ 100000) : Calls Tryz.prog 82 #[.func (.func 120) #[] #[.pointer (some ⟨b1, 0, none⟩)], .func (.func 55) #[] #[]] w₀ (Ret fun v w' => Stp [] w₀ C w' C ∧ RV w' (Mc C) (sortC xs) v) := by
 have hF0 := hF
 have hT := Stp.refl [2, 3, 4, 5, 6, 7, 8, 9] w₀ (col1 C)
 replace hF := hF.col1
 replace hx := hx.c1
 replace h1 := Low.of h1 C
 refine c_st F82.c0 12 [.func (.func 120) #[] #[.pointer (some ⟨b1, 0, none⟩)], .func (.func 55) #[] #[]] Tryz.func82 ?_
 show Run _ _ _ _ [(0, .func (.func 120) #[] #[.pointer (some ⟨b1, 0, none⟩)]), (1, .func (.func 55) #[] #[])] _ _
 refine run_sq (run_pl [yy 0] ?_)
 refine yV (kq 4 (.assign (.const (.slice none 0 0)))) (fun _ => val_assign rfl) ?_
 refine Sch.nil (run_sq (run_pl [yy 0, nn 1, yy 2] ?_))
 refine yM 6 0 ?_
 refine cG 7 119 [6] [118] Tryz.call119 rfl (collect_ok hF h1.at_ hx hlen 3 (by decide)) ?_
 rintro v7 w1 ⟨C7, s_1, hF, ho⟩
 refine yA 5 7 ?_
 refine Sch.nil (run_sq (run_pl [yy 0, yy 1, nn 2] ?_))
 refine yM 8 5 ?_
 refine yM 9 1 ?_
 refine cG 10 113 [8, 9] [53, 87] Tryz.call113 rfl (sort_ok hF ho (by omega)) ?_
 rintro vw2 w2 ⟨rfl, s_2, ho, _⟩
 refine Sch.nil (run_sq (run_pl [yy 0, yy 1] ?_))
 refine yM 11 5 ?_
 refine yA 4 11 ?_
 refine Sch.nil ?_
 refine rt1 Tryz.func82 Tryz.results82 ?_
 replace hT := (hT.t s_1).t s_2
 exact ⟨hT.out1 (by decide), ho.out hT hF0 (Mc_col1 C) (fun b _ => col1_lt C (by decide) b) (by rw [(sortC_perm _).length_eq]; omega)⟩
end
end Go.Proofs.YtdmgmlmlielfbaaGreat
