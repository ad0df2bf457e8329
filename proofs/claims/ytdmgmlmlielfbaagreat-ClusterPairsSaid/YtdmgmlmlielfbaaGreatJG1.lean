/- Steps through functions of the program. -/
import Derived.Test.YtdmgmlmlielfbaaGreatJF8
import Derived.Test.YtdmgmlmlielfbaaGreatJF1
import Derived.Test.YtdmgmlmlielfbaaGreatL3
set_option linter.unusedVariables false
set_option linter.unusedSimpArgs false
set_option maxRecDepth 100000
set_option maxHeartbeats 4000000
namespace Go.Proofs.YtdmgmlmlielfbaaGreat
open Go.K Go.K.Rep
noncomputable section
namespace F40
def c0 := bodyOf Tryz.f40
end F40
theorem wayG_ok {w₀ : World} {C : Nat → Nat} {l : List Bond} {ds : List Dcs} {vb vm vl : Value} (hF : Lim w₀ C) (hl : RV w₀ (Mc C) l vl) (hap : ApM w₀ (Mc C) ds vm) (hne : l ≠ []) (hlen : l.length ≤ 19) : Calls Tryz.prog 40 #[.agg #[vb, vm], vl] w₀ (Ret fun v w' => ∃ vp, v = .tuple #[vp, .int .i64 (wayG ds l).2] ∧ Stp [] w₀ C w' C ∧ RV w' (Mc C) (wayG ds l).1 vp) := by
 have hF0 := hF
 have hT := Stp.refl [2, 3, 4, 5, 6, 7, 8, 9] w₀ (col1 C)
 replace hF := hF.col1
 replace hl := hl.c1
 replace hap : ApM w₀ (Mc (col1 C)) ds vm := by rw [Mc_col1]; exact hap
 refine c_st F40.c0 9 [.agg #[vb, vm], vl] Tryz.func40 ?_
 show Run _ _ _ _ [(0, .agg #[vb, vm]), (1, vl)] _ _
 refine run_sq (run_pl [nn 0, yy 1, yy 2] ?_)
 refine aT (kq 2 (.box 75 (.tmp 0))) rfl rfl (a_box (cs := [vb, vm]) hF 3 rfl rfl) ?_
 rintro _ w1 ⟨Cw1, bw1, rfl, s_1, hx, hF⟩
 refine yV (kq 4 (.assign (.const (.slice none 0 0)))) (fun _ => val_assign rfl) ?_
 refine yAc 5 (.int .i64 0) ?_
 refine Sch.nil (run_sq (run_pl [nn 0, yy 1, nn 2, yy 3, yy 4] ?_))
 refine nS (kq 6 (.load 75 (.tmp 2))) rfl rfl trivial (val_loadOwnAgg (n := 2) (vs := [vb, vm]) hx.at_ (by kernel_rfl) (by kernel_rfl) rfl rfl rfl) ?_
 refine yM 7 1 ?_
 replace hl := hl.t s_1; replace hap := hap.t s_1
 refine cG 8 41 [6, 7] [75, 23] Tryz.call41 rfl (greedy_ok hF hl hap hne hlen) ?_
 rintro vg w3 ⟨zs, hSt, s_2, hg⟩
 rw [show grOut (refsS l) (grG ds zs) = greedyF l ds from by unfold greedyF; rw [← hSt.eq cmpW_3 (fun _ _ => trivial)]] at hg
 refine yA 4 8 ?_
 refine yAc 5 (.int .i64 0) ?_
 refine Sch.nil ?_
 refine run_ret2 (by kernel_rfl) Tryz.func40 Tryz.results40 rfl rfl ?_
 replace hT := (hT.t s_1).t s_2
 exact ⟨_, rfl, hT.out1 (by decide), hg.out hT hF0 (Mc_col1 C)⟩
namespace F44
def c0 := bodyOf Tryz.f44
end F44
theorem wayS_ok {w₀ : World} {C : Nat → Nat} {l : List Bond} {ds : List Dcs} {vb vm vl : Value} (hF : Lim w₀ C) (hl : RV w₀ (Mc C) l vl) (hap : ApM w₀ (Mc C) ds vm) (hw : ∀ x ∈ l, 1 ≤ x.w ∧ x.w ≤ 1048576) (hl4 : l.length ≤ 4096) (hgr : 8 < (refsS l).length → l ≠ [] ∧ l.length ≤ 19) : Calls Tryz.prog 44 #[.agg #[vb, vm], vl] w₀ (Ret fun v w' => ∃ vp, v = .tuple #[vp, .int .i64 (wayS ds l).2] ∧ Stp [] w₀ C w' C ∧ RV w' (Mc C) (wayS ds l).1 vp) := by
 have hF0 := hF
 have hT := Stp.refl [2, 3, 4, 5, 6, 7, 8, 9] w₀ (col1 C)
 replace hF := hF.col1
 replace hl := hl.c1
 replace hap : ApM w₀ (Mc (col1 C)) ds vm := by rw [Mc_col1]; exact hap
 refine c_st F44.c0 14 [.agg #[vb, vm], vl] Tryz.func44 ?_
 show Run _ _ _ _ [(0, .agg #[vb, vm]), (1, vl)] _ _
 refine run_sq (run_pl [nn 0, yy 1, yy 2] ?_)
 refine aT (kq 2 (.box 75 (.tmp 0))) rfl rfl (a_box (cs := [vb, vm]) hF 3 rfl rfl) ?_
 rintro _ w1 ⟨Cw1, bw1, rfl, s_1, hx, hF⟩
 refine yV (kq 4 (.assign (.const (.slice none 0 0)))) (fun _ => val_assign rfl) ?_
 refine yAc 5 (.int .i64 0) ?_
 refine Sch.nil (run_sq (run_sq (run_pl [yy 0, nn 1] ?_)))
 refine yM 6 1 ?_
 replace hl := hl.t s_1
 refine cG 7 45 [6] [23] Tryz.call45 rfl (small_ok hF hl (by omega)) ?_
 rintro vw2 w2 ⟨rfl, s_2⟩
 refine Sch.nil ?_
 refine run_i 7 rfl (fun h7 => ?_) (fun h7 => ?_)
 ·
  refine run_sq (run_pl [nn 0, yy 1, nn 2, yy 3, yy 4] ?_)
  replace hx := hx.t s_2
  refine nS (kq 8 (.load 75 (.tmp 2))) rfl rfl trivial (val_loadOwnAgg (n := 2) (vs := [vb, vm]) hx.at_ (by kernel_rfl) (by kernel_rfl) rfl rfl rfl) ?_
  refine yM 9 1 ?_
  replace hap := (hap.t s_1).t s_2; replace hF := hF.st s_2; replace hl := hl.t s_2
  refine cG 10 46 [8, 9] [75, 23] Tryz.call46 rfl (exact_ok hF hl hap (by omega) hw hl4) ?_
  rintro vg w3 ⟨s_3, hg⟩
  refine yA 4 10 ?_
  refine yAc 5 (.int .i64 0) ?_
  refine Sch.nil ?_
  refine run_ret2 (by kernel_rfl) Tryz.func44 Tryz.results44 rfl rfl ?_
  unfold wayS
  rw [if_pos h7]
  replace hT := ((hT.t s_1).t s_2).t s_3
  exact ⟨_, rfl, hT.out1 (by decide), hg.out hT hF0 (Mc_col1 C)⟩
 obtain ⟨hne, hlen⟩ := hgr (by omega)
 refine run_sk (run_sq (run_pl [nn 0, yy 1, nn 2, yy 3, yy 4] ?_))
 replace hx := hx.t s_2
 refine nS (kq 11 (.load 75 (.tmp 2))) rfl rfl trivial (val_loadOwnAgg (n := 2) (vs := [vb, vm]) hx.at_ (by kernel_rfl) (by kernel_rfl) rfl rfl rfl) ?_
 refine yM 12 1 ?_
 replace hap := (hap.t s_1).t s_2; replace hF := hF.st s_2; replace hl := hl.t s_2
 refine cG 13 41 [11, 12] [75, 23] Tryz.call41 rfl (greedy_ok hF hl hap hne hlen) ?_
 rintro vg w5 ⟨zs, hSt, s_4, hg⟩
 rw [show grOut (refsS l) (grG ds zs) = greedyF l ds from by unfold greedyF; rw [← hSt.eq cmpW_3 (fun _ _ => trivial)]] at hg
 refine yA 4 13 ?_
 refine yAc 5 (.int .i64 0) ?_
 refine Sch.nil ?_
 refine run_ret2 (by kernel_rfl) Tryz.func44 Tryz.results44 rfl rfl ?_
 unfold wayS
 rw [if_neg h7]
 replace hT := ((hT.t s_1).t s_2).t s_4
 exact ⟨_, rfl, hT.out1 (by decide), hg.out hT hF0 (Mc_col1 C)⟩
namespace F51
def c0 := bodyOf Tryz.f51
end F51
theorem wayX_ok {w₀ : World} {C : Nat → Nat} {l : List Bond} {ds : List Dcs} {vb vm vl : Value} (hF : Lim w₀ C) (hl : RV w₀ (Mc C) l vl) (hap : ApM w₀ (Mc C) ds vm) (hw : ∀ x ∈ l, 1 ≤ x.w ∧ x.w ≤ 1048576) (hl4 : l.length ≤ 4096) : Calls Tryz.prog 51 #[.agg #[vb, vm], vl] w₀ (Ret fun v w' => ∃ vp, v = .tuple #[vp, .int .i64 (wayX ds l).2] ∧ Stp [] w₀ C w' C ∧ RV w' (Mc C) (wayX ds l).1 vp) := by
 have hF0 := hF
 have hT := Stp.refl [2, 3, 4, 5, 6, 7, 8, 9] w₀ (col1 C)
 replace hF := hF.col1
 replace hl := hl.c1
 replace hap : ApM w₀ (Mc (col1 C)) ds vm := by rw [Mc_col1]; exact hap
 refine c_st F51.c0 12 [.agg #[vb, vm], vl] Tryz.func51 ?_
 show Run _ _ _ _ [(0, .agg #[vb, vm]), (1, vl)] _ _
 refine run_sq (run_pl [nn 0, yy 1, yy 2] ?_)
 refine aT (kq 2 (.box 75 (.tmp 0))) rfl rfl (a_box (cs := [vb, vm]) hF 3 rfl rfl) ?_
 rintro _ w1 ⟨Cw1, bw1, rfl, s_1, hx, hF⟩
 refine yV (kq 4 (.assign (.const (.slice none 0 0)))) (fun _ => val_assign rfl) ?_
 refine yAc 5 (.int .i64 0) ?_
 refine Sch.nil (run_sq (run_sq (run_pl [yy 0, nn 1, yy 2] ?_)))
 refine yM 6 1 ?_
 replace hl := hl.t s_1
 refine cG 7 45 [6] [23] Tryz.call45 rfl (small_ok hF hl (by omega)) ?_
 rintro vw2 w2 ⟨rfl, s_2⟩
 refine yV (kq 8 (.unOp .not 4 (.tmp 7))) (fun _ => val_notd rfl) ?_
 refine Sch.nil ?_
 refine run_i 8 rfl (fun h8 => ?_) (fun h8 => ?_)
 ·
  refine run_sq (run_pl [yy 0, yy 1] ?_)
  refine yV (kq 4 (.assign (.const (.slice none 0 0)))) (fun _ => val_assign rfl) ?_
  refine yAc 5 (.int .i64 1) ?_
  refine Sch.nil ?_
  refine run_ret2 (by kernel_rfl) Tryz.func51 Tryz.results51 rfl rfl ?_
  unfold wayX
  rw [if_neg h8]
  replace hT := (hT.t s_1).t s_2
  exact ⟨_, rfl, hT.out1 (by decide), rv_nil⟩
 have h8b : ((refsS l).length : Int) ≤ 8 := by omega
 refine run_sk (run_sq (run_pl [nn 0, yy 1, nn 2, yy 3, yy 4] ?_))
 replace hx := hx.t s_2
 refine nS (kq 9 (.load 75 (.tmp 2))) rfl rfl trivial (val_loadOwnAgg (n := 2) (vs := [vb, vm]) hx.at_ (by kernel_rfl) (by kernel_rfl) rfl rfl rfl) ?_
 refine yM 10 1 ?_
 replace hap := (hap.t s_1).t s_2; replace hF := hF.st s_2; replace hl := hl.t s_2
 refine cG 11 46 [9, 10] [75, 23] Tryz.call46 rfl (exact_ok hF hl hap (by omega) hw hl4) ?_
 rintro vg w3 ⟨s_3, hg⟩
 refine yA 4 11 ?_
 refine yAc 5 (.int .i64 0) ?_
 refine Sch.nil ?_
 refine run_ret2 (by kernel_rfl) Tryz.func51 Tryz.results51 rfl rfl ?_
 unfold wayX
 rw [if_pos h8b]
 replace hT := ((hT.t s_1).t s_2).t s_3
 exact ⟨_, rfl, hT.out1 (by decide), hg.out hT hF0 (Mc_col1 C)⟩
end
end Go.Proofs.YtdmgmlmlielfbaaGreat
