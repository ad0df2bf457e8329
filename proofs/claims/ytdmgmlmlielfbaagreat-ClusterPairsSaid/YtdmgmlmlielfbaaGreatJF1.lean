/- Steps through functions of the program. -/
import Derived.Test.YtdmgmlmlielfbaaGreatJE9
import Derived.Test.YtdmgmlmlielfbaaGreatJC3
set_option linter.unusedVariables false
set_option linter.unusedSimpArgs false
set_option maxRecDepth 100000
set_option maxHeartbeats 4000000
namespace Go.Proofs.YtdmgmlmlielfbaaGreat
open Go.K Go.K.Rep
noncomputable section
namespace F45
def c0 := bodyOf Tryz.f45
end F45
theorem small_ok {w₀ : World} {C : Nat → Nat} {l : List Bond} {vl : Value} (hF : Lim w₀ C) (hl : RV w₀ (Mc C) l vl) (hlen : l.length ≤ 100000) : Calls Tryz.prog 45 #[vl] w₀ (Ret fun v w' => v = .bool (decide (((refsS l).length : Int) ≤ 8)) ∧ Stp [] w₀ C w' C) := by
 have hF0 := hF
 have hT := Stp.refl [2, 3, 4, 5, 6, 7, 8, 9] w₀ (col1 C)
 replace hF := hF.col1
 replace hl := hl.c1
 refine c_st F45.c0 7 [vl] Tryz.func45 ?_
 show Run _ _ _ _ [(0, vl)] _ _
 refine run_sq (run_pl [yy 0] ?_)
 refine yAc 2 (.bool false) ?_
 refine Sch.nil (run_sq (run_pl [yy 0, nn 1, yy 2, yy 3, yy 4] ?_))
 refine yM 3 0 ?_
 refine cG 4 72 [3] [23] Tryz.call72 rfl (refs_ok hF hl (by omega)) ?_
 rintro vr w1 ⟨s_1, hrf⟩
 refine yS (kq 5 (.call { callee := .builtin .len, args := #[(.tmp 4)], argTypes := #[53] })) rfl rfl (fun w' hS => hrf.lenV rfl Tryz.underlying53 w' ) ?_
 refine yV (kq 6 (.binOp .leq 3 (.tmp 5) (.const (.int .i64 8)) 3)) (fun _ => val_leq rfl rfl) ?_
 refine yA 2 6 ?_
 refine Sch.nil ?_
 refine rt1 Tryz.func45 Tryz.results45 ?_
 replace hT := hT.t s_1
 exact ⟨rfl, hT.out1 (by decide)⟩
namespace F46
def c0 := bodyOf Tryz.f46
def o1 := rops (cl (cr c0))
end F46
theorem exact_ok {w₀ : World} {C : Nat → Nat} {l : List Bond} {ds : List Dcs} {vb vm vl : Value} (hF : Lim w₀ C) (hl : RV w₀ (Mc C) l vl) (hap : ApM w₀ (Mc C) ds vm) (hrl : (refsS l).length ≤ 1000) (hw : ∀ x ∈ l, 1 ≤ x.w ∧ x.w ≤ 1048576) (hl4 : l.length ≤ 4096) : Calls Tryz.prog 46 #[.agg #[vb, vm], vl] w₀ (Ret fun v w' => Stp [] w₀ C w' C ∧ RV w' (Mc C) (exactF l ds) v) := by
 have hF0 := hF
 have hT := Stp.refl [2, 3, 4, 5, 6, 7, 8, 9] w₀ (col1 C)
 replace hF := hF.col1
 replace hl := hl.c1
 replace hap : ApM w₀ (Mc (col1 C)) ds vm := by rw [Mc_col1]; exact hap
 refine c_st F46.c0 20 [.agg #[vb, vm], vl] Tryz.func46 ?_
 show Run _ _ _ _ [(0, .agg #[vb, vm]), (1, vl)] _ _
 refine run_sq (run_pl [nn 0, yy 1] ?_)
 refine aT (kq 2 (.box 75 (.tmp 0))) rfl rfl (a_box (cs := [vb, vm]) hF 4 rfl rfl) ?_
 rintro _ w1 ⟨Cw1, bw1, rfl, s_1, hx0, hF⟩
 refine yV (kq 4 (.assign (.const (.slice none 0 0)))) (fun _ => val_assign rfl) ?_
 refine Sch.nil (run_sq ?_)
 refine run_draw (id := 1) (ops := F46.o1) [] (Cw1) [yy 0, yy 1, yy 2, yy 3, yy 4, nn 5, yy 6, nn 7, yy 8] Tryz_mixed (by kernel_rfl) (by kernel_rfl) (by kernel_rfl) ?_
 intro w2 s_2
 have hR := Stp.refl [] w2 (Cw1)
 refine yM 6 1 ?_
 refine yF 7 75 2 1 1 ?_
 replace hx0 := hx0.t s_2
 refine yS (kq 8 (.load 73 (.tmp 7))) rfl rfl (fun w' hS => val_loadOwn (hx0.sy hS) (by kernel_rfl) rfl rfl) ?_
 replace hl := (hl.t s_1).t s_2; replace hap := (hap.t s_1).t s_2
 refine yV (kq 9 (.build 75 #[(0, (.tmp 6)), (1, (.tmp 8))])) (fun _ => val_build (zs := [.slice none 0 0, .map none]) (ps := [(0, 1), (1, 1)]) (qs := [(0, [vl]), (1, [vm])]) (cs := [vl, vm]) (by kernel_rfl) (by kernel_rfl) (by exact ⟨rfl, ⟨_, rfl, (hl.one rfl).1⟩, rfl, ⟨_, rfl, hap.one.1⟩, trivial⟩) rfl) ?_
 refine yM 10 1 ?_
 replace hF := hF.st s_2
 refine cF 11 72 [10] [23] Tryz.call72 rfl (refs_ok hF hl (by omega)) ?_
 rintro vr w3 ⟨s_3, hrf⟩
 refine ⟨(hR.trans s_3 (by simp)).ext, ?_⟩
 refine yV (kq 12 (.build 128 #[(0, (.tmp 9)), (1, (.tmp 11))])) (fun _ => val_build (zs := [.slice none 0 0, .map none, .slice none 0 0, .slice none 0 0, .bool false, .slice none 0 0, .int .i64 0]) (ps := [(0, 2), (2, 1), (3, 1), (4, 1), (5, 1), (6, 1)]) (qs := [(0, [vl, vm]), (1, [vr])]) (cs := [vl, vm, vr, .slice none 0 0, .bool false, .slice none 0 0, .int .i64 0]) (by kernel_rfl) (by kernel_rfl) (by exact ⟨rfl, ⟨_, rfl, rfl⟩, rfl, ⟨_, rfl, (hrf.one rfl).1⟩, trivial⟩) rfl) ?_
 replace hF := hF.st s_3
 refine aS (kq 13 (.box 128 (.tmp 12))) rfl rfl (a_box (cs := [vl, vm, vr, .slice none 0 0, .bool false, .slice none 0 0, .int .i64 0]) hF 3 rfl rfl) ?_
 rintro _ w4 ⟨Cw4, bw4, rfl, s_4, hx, hF⟩
 replace hR := hR.t s_3
 refine ⟨(hR.trans s_4 (by simp)).ext, ?_⟩
 refine yA 5 13 ?_
 refine Sch.nil (run_sq (run_pl [yy 0, nn 1] ?_))
 refine yM 14 5 ?_
 replace hl := (hl.t s_3).t s_4; replace hap := (hap.t s_3).t s_4; replace hrf := hrf.t s_4
 refine cT (kq 15 (.call { callee := .value (.func 89), args := #[(.tmp 14), (.const (.int .i64 0))], argTypes := #[126, 3] })) rfl rfl (ent Tryz.call89 rfl) (place_ok (b := bw4) (refsS_nodup l) hrl hw hl4 (refsS l).length 0 _ Cw4 [] st0 (by simp) PI.nil hF hl hrf hap ⟨_, [], _, hx, OwnL.nil, RwS.nil, rv_nil⟩) ?_
 rintro _ w5 ⟨Cw5, rfl, s_5, hF, hS⟩
 clear hx hx0
 obtain ⟨vs, us, vbest, hx, _, _, hbest⟩ := hS
 refine Sch.nil (run_sq (run_pl [yy 0, yy 1, yy 2, nn 3, yy 4] ?_))
 refine yM 16 5 ?_
 refine yN 17 16 ?_
 refine yF 18 128 17 4 5 ?_
 refine nO 19 25 18 hx.at_ rfl rfl ?_
 refine yA 4 19 ?_
 refine Sch.nil ?_
 refine rt1 Tryz.func46 Tryz.results46 ?_
 replace hT := ((((hT.t s_1).t s_2).t s_3).t s_4).t s_5
 exact ⟨hT.out1 (by decide), hbest.out hT hF0 (Mc_col1 C)⟩
end
end Go.Proofs.YtdmgmlmlielfbaaGreat
