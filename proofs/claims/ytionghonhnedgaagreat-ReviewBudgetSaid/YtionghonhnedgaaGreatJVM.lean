/- Steps through functions of the program. -/
import Derived.Test.YtionghonhnedgaaGreatJVL
set_option linter.unusedVariables false
set_option linter.unusedSimpArgs false
set_option maxRecDepth 100000
set_option maxHeartbeats 4000000
namespace Go.Proofs.YtionghonhnedgaaGreat
open Go.K Go.K.Rep

namespace F70
noncomputable def c0 := bodyOf Tryz.f70
noncomputable def c8 := (cl (cl (cr (cr (cr c0)))))
noncomputable def c9 := (cr (cl (cr (cr (cr c0)))))
noncomputable def c15 := (cl (cr (cr (cr (cr c0)))))
noncomputable def c16 := (cr (cr (cr (cr (cr c0)))))
noncomputable def c29 := (cl (cl (cr (cl (cr c16)))))
noncomputable def c30 := (cr (cl (cr (cl (cr c16)))))
noncomputable def o11 := rops (cl (cr c30))
noncomputable def c42 := (cl (cl (cr (cr (cr c16)))))
noncomputable def c43 := (cr (cl (cr (cr (cr c16)))))
noncomputable def o15 := rops (cl (cl c43))
noncomputable def c53 := (cl (cr (cr (cr (cr c16)))))
noncomputable def c54 := (cr (cr (cr (cr (cr c16)))))
end F70
/-- 'slices.Insert' at the end. -/
theorem insD_ok {w₀ : World} {C : Nat → Nat} {j i : Nat} {v vx : Value} {l : List Dcs} {x : Dcs} (hF : Lim w₀ C) (hj : j ≠ 0) (hl : AppL w₀ C j 75 v l) (hx : RV w₀ (Mc C) [x] vx) (hi : i = l.length) (hlen : l.length ≤ 1000000) :
    Calls Tryz.prog 70 #[v, .int .i64 i, vx] w₀ (Ret fun u w' => ∃ C', Stp [j] w₀ C w' C' ∧ OwnL w' C' j 75 u (l ++ [x]) ∧ Lim w' C') := by
 have hT := Stp.refl [j] w₀ C
 have hxl : ([x] : List Dcs).length = 1 := rfl
 refine calls_start (c := F70.c0) (N := 95) [v, .int .i64 i, vx] Tryz.func70 (by kernel_rfl) (by kernel_rfl) (by kernel_rfl) ?_
 show Run _ _ _ _ [(0, v), (1, .int .i64 i), (2, vx)] _ _
 refine run_sq ?_
 refine run_pl [yy 0] ?_
 refine yV (kq 6 (.assign (.const (.slice none 0 0)))) (fun _ => val_assign rfl) ?_
 refine Sch.nil ?_
 refine run_sq ?_
 refine run_pl [yy 0, yy 1, yy 2] ?_
 refine yM 10 0 ?_
 refine yM 11 1 ?_
 refine sFA (e' := 75) (kq 12 (.slice 24 (.tmp 10) (some (.tmp 11)) none none)) rfl rfl hl (by omega) rfl (by kernel_rfl) rfl (by omega) (by omega) ?_
 intro v12
 refine Sch.nil ?_
 refine run_sq ?_
 refine run_pl [yy 0, yy 1, yy 2] ?_
 refine yM 13 2 ?_
 refine yS (kq 14 (.call { callee := .builtin .len, args := #[(.tmp 13)], argTypes := #[24] })) rfl rfl (fun w' hS => hx.lenV rfl Tryz.underlying24 w' ) ?_
 refine yA 7 14 ?_
 refine Sch.nil ?_
 refine run_sq ?_
 refine run_sq ?_
 refine run_pl [yy 0, yy 1] ?_
 refine yM 15 7 ?_
 refine yV (kq 16 (.binOp .eql 3 (.tmp 15) (.const (.int .i64 0)) 3)) (fun _ => val_is (val_eql rfl rfl) (show _ = Value.bool false from congrArg Value.bool (decide_eq_false (by simp)))) ?_
 refine Sch.nil ?_
 refine run_cF 16 ?_
 refine run_sk ?_
 refine run_sq ?_
 refine run_pl [yy 0, yy 1, yy 2] ?_
 refine yM 18 0 ?_
 refine yS (kq 19 (.call { callee := .builtin .len, args := #[(.tmp 18)], argTypes := #[24] })) rfl rfl (fun w' hS => hl.lenV rfl Tryz.underlying24 w' ) ?_
 refine yA 8 19 ?_
 refine Sch.nil ?_
 refine run_sq ?_
 refine run_sq ?_
 refine run_pl [yy 0, yy 1, yy 2] ?_
 refine yM 20 1 ?_
 refine yM 21 8 ?_
 refine yV (kq 22 (.binOp .eql 3 (.tmp 20) (.tmp 21) 3)) (fun _ => val_is (val_eql rfl rfl) (show _ = Value.bool true from congrArg Value.bool (decide_eq_true (by omega)))) ?_
 refine Sch.nil ?_
 refine run_cT 22 ?_
 refine run_sq ?_
 refine run_pl [yy 0, yy 1, nn 2, yy 3] ?_
 refine yM 23 0 ?_
 refine yM 24 2 ?_
 refine aS (kq 25 (.call { callee := .builtin .append, args := #[(.tmp 23), (.tmp 24)], argTypes := #[24, 24] })) rfl rfl (a_appendA (e := 75) (bytes := 56) hF hj rfl rfl (by kernel_rfl) (by decide) hl hx (by simp) (by simp only [List.length_cons, List.length_nil]; omega) (by simp only [List.length_cons, List.length_nil]; omega)) ?_
 rintro v25 w1 ⟨Cw1, hs, ho, hF⟩
 refine ⟨trivial, ?_⟩
 replace hT := hT.trans hs (by simp <;> omega)
 refine yA 6 25 ?_
 refine Sch.nil ?_
 refine run_ret1 (by kernel_rfl) Tryz.func70 Tryz.results70 rfl ?_
 exact ⟨_, hT, ho, hF⟩
end Go.Proofs.YtionghonhnedgaaGreat
