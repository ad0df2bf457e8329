/- Steps through functions of the program. -/
import Derived.Test.YtdmgmlmlielfbaaGreatJE2
import Derived.Test.YtdmgmlmlielfbaaGreatL2
set_option linter.unusedVariables false
set_option linter.unusedSimpArgs false
set_option maxRecDepth 100000
set_option maxHeartbeats 4000000
namespace Go.Proofs.YtdmgmlmlielfbaaGreat
open Go.K Go.K.Rep
noncomputable section
namespace F79
def c0 := bodyOf Tryz.f79
end F79
theorem greedy3_ok {w₀ : World} {C : Nat → Nat} {ds : List Dcs} {vb vm : Value} {x a : Couple} {b1 b2 : Nat} (hF : Lim w₀ C) (hap : ApM w₀ (Mc C) ds vm) (h1 : w₀.heap[b1]? = some (.cells [vb, vm].toArray 75)) (h2 : w₀.heap[b2]? = some (.cells (encR a).toArray 47)) : Calls Tryz.prog 79 #[kvC x, .pointer (some ⟨b1, 0, none⟩), .pointer (some ⟨b2, 0, none⟩)] w₀ (Ret fun v w' => v = .bool (barB ds a x) ∧ Stp [] w₀ C w' C) := by
 have hF0 := hF
 have hT := Stp.refl [2, 3, 4, 5, 6, 7, 8, 9] w₀ (col1 C)
 replace hF := hF.col1
 replace hap : ApM w₀ (Mc (col1 C)) ds vm := by rw [Mc_col1]; exact hap
 replace h1 := Low.of h1 C
 replace h2 := Low.of h2 C
 refine c_st F79.c0 9 [kvC x, .pointer (some ⟨b1, 0, none⟩), .pointer (some ⟨b2, 0, none⟩)] Tryz.func79 ?_
 show Run _ _ _ _ [(0, kvC x), (1, .pointer (some ⟨b1, 0, none⟩)), (2, .pointer (some ⟨b2, 0, none⟩))] _ _
 refine run_sq (run_pl [nn 0, yy 1] ?_)
 refine aT (kq 3 (.box 47 (.tmp 0))) rfl rfl (a_box (cs := encR x) hF 3 rfl rfl) ?_
 rintro _ w1 ⟨Cw1, bw1, rfl, s_1, hb, hF⟩
 refine yAc 4 (.bool false) ?_
 refine Sch.nil (run_sq (run_pl [nn 0, nn 1, nn 2, nn 3, yy 4] ?_))
 replace h1 := h1.t s_1
 refine nS (kq 5 (.load 75 (.tmp 1))) rfl rfl trivial (val_loadOwnAgg (n := 2) (vs := [vb, vm]) h1.at_ (by kernel_rfl) (by kernel_rfl) rfl rfl rfl) ?_
 replace h2 := h2.t s_1
 refine nS (kq 6 (.load 47 (.tmp 2))) rfl rfl trivial (val_loadOwnAgg (n := 2) (vs := encR a) h2.at_ (by kernel_rfl) (by kernel_rfl) rfl rfl rfl) ?_
 refine nS (kq 7 (.load 47 (.tmp 3))) rfl rfl trivial (val_loadOwnAgg (n := 2) (vs := encR x) hb.at_ (by kernel_rfl) (by kernel_rfl) rfl rfl rfl) ?_
 replace hap := hap.t s_1
 refine cG 8 80 [5, 6, 7] [75, 47, 47] Tryz.call80 rfl (bars_ok (a := a) (b := x) hF hap) ?_
 rintro vw2 w2 ⟨rfl, s_2⟩
 refine yA 4 8 ?_
 refine Sch.nil ?_
 refine rt1 Tryz.func79 Tryz.results79 ?_
 replace hT := (hT.t s_1).t s_2
 exact ⟨rfl, hT.out1 (by decide)⟩
namespace F78
def c0 := bodyOf Tryz.f78
end F78
theorem greedy2_ok {w₀ : World} {C : Nat → Nat} {ds : List Dcs} {vb vm vq : Value} {a : Couple} {q : List Couple} {b1 b2 : Nat} (hF : Lim w₀ C) (hap : ApM w₀ (Mc C) ds vm) (hq : RV w₀ (Mc C) q vq) (h1 : w₀.heap[b1]? = some (.cells [vb, vm].toArray 75)) (h2 : w₀.heap[b2]? = some (.cells [vq].toArray 53)) : Calls Tryz.prog 78 #[kvC a, .pointer (some ⟨b2, 0, none⟩), .pointer (some ⟨b1, 0, none⟩)] w₀ (Ret fun v w' => v = .bool (q.any fun x => barB ds a x) ∧ Stp [] w₀ C w' C) := by
 have hF0 := hF
 have hT := Stp.refl [2, 3, 4, 5, 6, 7, 8, 9] w₀ (col1 C)
 replace hF := hF.col1
 replace hap : ApM w₀ (Mc (col1 C)) ds vm := by rw [Mc_col1]; exact hap
 replace hq := hq.c1
 replace h1 := Low.of h1 C
 replace h2 := Low.of h2 C
 refine c_st F78.c0 8 [kvC a, .pointer (some ⟨b2, 0, none⟩), .pointer (some ⟨b1, 0, none⟩)] Tryz.func78 ?_
 show Run _ _ _ _ [(0, kvC a), (1, .pointer (some ⟨b2, 0, none⟩)), (2, .pointer (some ⟨b1, 0, none⟩))] _ _
 refine run_sq (run_pl [nn 0, yy 1] ?_)
 refine aT (kq 3 (.box 47 (.tmp 0))) rfl rfl (a_box (cs := encR a) hF 3 rfl rfl) ?_
 rintro _ w1 ⟨Cw1, bw1, rfl, s_1, hb, hF⟩
 refine yAc 4 (.bool false) ?_
 refine Sch.nil (run_sq (run_pl [nn 0, yy 1, nn 2, yy 3] ?_))
 replace h2 := h2.t s_1
 refine nO 5 53 1 h2.at_ rfl rfl ?_
 refine yV (kq 6 (.makeFunc (.func 79) #[] #[(.tmp 2), (.tmp 3)])) (fun _ => val_makeFunc rfl rfl) ?_
 replace hap := hap.t s_1; replace h1 := h1.t s_1
 have hcl : ∀ w1, Stp [] _ (Cw1) w1 (Cw1) → ∀ x ∈ q, Calls Tryz.prog 79 ([kvC x] ++ #[Value.pointer (some ⟨b1, 0, none⟩), Value.pointer (some ⟨bw1, 0, none⟩)].toList).toArray w1 (Ret fun v w' => v = .bool (barB ds a x) ∧ Stp [] w1 (Cw1) w' (Cw1)) := fun w1 h1' x _ => greedy3_ok (hF.st h1') (hap.st h1' (by decide)) (h1'.same h1.at_) (h1'.same hb.at_)
 replace hq := hq.t s_1
 refine cG 7 77 [5, 6] [53, 114] Tryz.call77 rfl (containsR_ok (p := fun x => barB ds a x) (nf := 79) (caps := #[Value.pointer (some ⟨b1, 0, none⟩), Value.pointer (some ⟨bw1, 0, none⟩)]) (fun args w => Tryz.call79 args w) hcl hF hq) ?_
 rintro vw2 w2 ⟨rfl, s_2⟩
 refine yA 4 7 ?_
 refine Sch.nil ?_
 refine rt1 Tryz.func78 Tryz.results78 ?_
 replace hT := (hT.t s_1).t s_2
 exact ⟨rfl, hT.out1 (by decide)⟩
end
end Go.Proofs.YtdmgmlmlielfbaaGreat
