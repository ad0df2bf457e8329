/- Steps through functions of the program. -/
import Derived.Test.YtionghonhnedgaaGreatJV9
import Derived.Test.YtionghonhnedgaaGreatL2
set_option linter.unusedVariables false
set_option linter.unusedSimpArgs false
set_option maxRecDepth 100000
set_option maxHeartbeats 4000000
namespace Go.Proofs.YtionghonhnedgaaGreat
open Go.K Go.K.Rep

namespace F43
noncomputable def c0 := bodyOf Tryz.f43
end F43
theorem greyRef_ok {w₀ : World} {C : Nat → Nat} {x : Couple} (hF : Lim w₀ C) : Calls Tryz.prog 43 #[.agg #[.int .i64 x.a, .int .i64 x.b]] w₀ (Ret fun v w' => v = .bool (refOK x) ∧ Stp [] w₀ C w' C) := by
 have hF0 := hF
 have hT := Stp.refl [2, 3, 4, 5, 6, 7, 8, 9] w₀ (col1 C)
 replace hF := hF.col1
 refine calls_start (c := F43.c0) (N := 21) [.agg #[.int .i64 x.a, .int .i64 x.b]] Tryz.func43 (by kernel_rfl) (by kernel_rfl) (by kernel_rfl) ?_
 show Run _ _ _ _ [(0, .agg #[.int .i64 x.a, .int .i64 x.b])] _ _
 refine run_sq ?_
 refine run_pl [nn 0, yy 1] ?_
 refine aS (kq 1 (.box 32 (.tmp 0))) rfl rfl (a_box (cs := [.int .i64 x.a, .int .i64 x.b]) hF 3 rfl rfl) ?_
 rintro _ w1 ⟨Cw1, bw1, rfl, hs, hx, hF⟩
 refine ⟨trivial, ?_⟩
 replace hT := hT.t hs
 refine yAc 2 (.bool false) ?_
 refine Sch.nil ?_
 refine kp (sub_cons 1 rfl rfl (sub_nil _)) ?_
 refine run_sq ?_
 refine run_cut 2 (refOK x) (Cw1) ?_ ?_
 ·
  intro hcut
  by_cases hA : 0 ≤ x.a
  ·
   by_cases hB : x.a < 4
   ·
    by_cases hC : 1 ≤ x.b
    ·
     refine run_pl [yy 0, nn 1, yy 2, yy 3, yy 4, nn 5, yy 6, yy 7, yy 8, yy 9, nn 10, yy 11, yy 12, yy 13, yy 14, nn 15, yy 16, yy 17, yy 18] ?_
     refine yF 3 32 1 0 0 ?_
     refine nS (kq 4 (.load 3 (.tmp 3))) rfl rfl trivial (val_loadOwn hx.at_ (by kernel_rfl) rfl rfl) ?_
     refine yV (kq 5 (.binOp .geq 3 (.tmp 4) (.const (.int .i64 0)) 3)) (fun _ => val_T (val_geq rfl rfl) hA) ?_
     refine yM 6 5 ?_
     refine yFg 7 32 1 0 0 3 true ?_
     refine nS (kg 8 (.load 3 (.tmp 7)) 3 true) rfl rfl trivial (val_loadOwn hx.at_ (by kernel_rfl) rfl rfl) ?_
     refine yV (kg 9 (.binOp .lss 3 (.tmp 8) (.const (.int .i64 4)) 3) 3 true) (fun _ => val_T (val_lss rfl rfl) hB) ?_
     refine yAt 10 6 9 ?_
     refine yM 11 10 ?_
     refine yFg 12 32 1 1 1 8 true ?_
     refine nS (kg 13 (.load 3 (.tmp 12)) 8 true) rfl rfl trivial (val_loadOwn hx.at_ (by kernel_rfl) rfl rfl) ?_
     refine yV (kg 14 (.binOp .geq 3 (.tmp 13) (.const (.int .i64 1)) 3) 8 true) (fun _ => val_T (val_geq rfl rfl) hC) ?_
     refine yAt 15 11 14 ?_
     refine yM 16 15 ?_
     refine yFg 17 32 1 1 1 13 true ?_
     refine nS (kg 18 (.load 3 (.tmp 17)) 13 true) rfl rfl trivial (val_loadOwn hx.at_ (by kernel_rfl) rfl rfl) ?_
     refine yV (kg 19 (.binOp .leq 3 (.tmp 18) (.const (.int .i64 1048576)) 3) 13 true) (fun _ => val_leq rfl rfl) ?_
     refine yAt 20 16 19 ?_
     refine yA 2 20 ?_
     exact Sch.nil (hcut _ _ _ (Stp.refl _ _ _) rfl (by unfold refOK; rw [decide_eq_true hA, decide_eq_true hB, decide_eq_true hC]; rfl) (sk 19))
    ·
     refine run_pl [yy 0, nn 1, yy 2, yy 3, yy 4, nn 5, yy 6, yy 7, yy 8, yy 9, nn 10, yy 11, yy 12, yy 13, yy 14, nn 15, yy 16, yy 17, yy 18] ?_
     refine yF 3 32 1 0 0 ?_
     refine nS (kq 4 (.load 3 (.tmp 3))) rfl rfl trivial (val_loadOwn hx.at_ (by kernel_rfl) rfl rfl) ?_
     refine yV (kq 5 (.binOp .geq 3 (.tmp 4) (.const (.int .i64 0)) 3)) (fun _ => val_T (val_geq rfl rfl) hA) ?_
     refine yM 6 5 ?_
     refine yFg 7 32 1 0 0 3 true ?_
     refine nS (kg 8 (.load 3 (.tmp 7)) 3 true) rfl rfl trivial (val_loadOwn hx.at_ (by kernel_rfl) rfl rfl) ?_
     refine yV (kg 9 (.binOp .lss 3 (.tmp 8) (.const (.int .i64 4)) 3) 3 true) (fun _ => val_T (val_lss rfl rfl) hB) ?_
     refine yAt 10 6 9 ?_
     refine yM 11 10 ?_
     refine yFg 12 32 1 1 1 8 true ?_
     refine nS (kg 13 (.load 3 (.tmp 12)) 8 true) rfl rfl trivial (val_loadOwn hx.at_ (by kernel_rfl) rfl rfl) ?_
     refine yV (kg 14 (.binOp .geq 3 (.tmp 13) (.const (.int .i64 1)) 3) 8 true) (fun _ => val_F (val_geq rfl rfl) hC) ?_
     refine yAt 15 11 14 ?_
     refine yM 16 15 ?_
     refine pX 17 13 true ?_
     refine pW (kg 18 (.load 3 (.tmp 17)) 13 true) rfl rfl trivial ?_
     refine pX 19 13 true ?_
     refine yAf 20 16 19 ?_
     refine yA 2 20 ?_
     exact Sch.nil (hcut _ _ _ (Stp.refl _ _ _) rfl (by unfold refOK; rw [decide_eq_true hA, decide_eq_true hB, decide_eq_false hC]; rfl) (sk 19))
   ·
    refine run_pl [yy 0, nn 1, yy 2, yy 3, yy 4, nn 5, yy 6, yy 7, yy 8, yy 9, nn 10, yy 11, yy 12, yy 13, yy 14, nn 15, yy 16, yy 17, yy 18] ?_
    refine yF 3 32 1 0 0 ?_
    refine nS (kq 4 (.load 3 (.tmp 3))) rfl rfl trivial (val_loadOwn hx.at_ (by kernel_rfl) rfl rfl) ?_
    refine yV (kq 5 (.binOp .geq 3 (.tmp 4) (.const (.int .i64 0)) 3)) (fun _ => val_T (val_geq rfl rfl) hA) ?_
    refine yM 6 5 ?_
    refine yFg 7 32 1 0 0 3 true ?_
    refine nS (kg 8 (.load 3 (.tmp 7)) 3 true) rfl rfl trivial (val_loadOwn hx.at_ (by kernel_rfl) rfl rfl) ?_
    refine yV (kg 9 (.binOp .lss 3 (.tmp 8) (.const (.int .i64 4)) 3) 3 true) (fun _ => val_F (val_lss rfl rfl) hB) ?_
    refine yAt 10 6 9 ?_
    refine yM 11 10 ?_
    refine pX 12 8 true ?_
    refine pW (kg 13 (.load 3 (.tmp 12)) 8 true) rfl rfl trivial ?_
    refine pX 14 8 true ?_
    refine yAf 15 11 14 ?_
    refine yM 16 15 ?_
    refine pX 17 13 true ?_
    refine pW (kg 18 (.load 3 (.tmp 17)) 13 true) rfl rfl trivial ?_
    refine pX 19 13 true ?_
    refine yAf 20 16 19 ?_
    refine yA 2 20 ?_
    exact Sch.nil (hcut _ _ _ (Stp.refl _ _ _) rfl (by unfold refOK; rw [decide_eq_true hA, decide_eq_false hB]; rfl) (sk 19))
  ·
   refine run_pl [yy 0, nn 1, yy 2, yy 3, yy 4, nn 5, yy 6, yy 7, yy 8, yy 9, nn 10, yy 11, yy 12, yy 13, yy 14, nn 15, yy 16, yy 17, yy 18] ?_
   refine yF 3 32 1 0 0 ?_
   refine nS (kq 4 (.load 3 (.tmp 3))) rfl rfl trivial (val_loadOwn hx.at_ (by kernel_rfl) rfl rfl) ?_
   refine yV (kq 5 (.binOp .geq 3 (.tmp 4) (.const (.int .i64 0)) 3)) (fun _ => val_F (val_geq rfl rfl) hA) ?_
   refine yM 6 5 ?_
   refine pX 7 3 true ?_
   refine pW (kg 8 (.load 3 (.tmp 7)) 3 true) rfl rfl trivial ?_
   refine pX 9 3 true ?_
   refine yAf 10 6 9 ?_
   refine yM 11 10 ?_
   refine pX 12 8 true ?_
   refine pW (kg 13 (.load 3 (.tmp 12)) 8 true) rfl rfl trivial ?_
   refine pX 14 8 true ?_
   refine yAf 15 11 14 ?_
   refine yM 16 15 ?_
   refine pX 17 13 true ?_
   refine pW (kg 18 (.load 3 (.tmp 17)) 13 true) rfl rfl trivial ?_
   refine pX 19 13 true ?_
   refine yAf 20 16 19 ?_
   refine yA 2 20 ?_
   exact Sch.nil (hcut _ _ _ (Stp.refl _ _ _) rfl (by unfold refOK; rw [decide_eq_false hA]; rfl) (sk 19))
 intro w2 hs
 replace hF := hF.st hs
 replace hT := hT.t hs; replace hx := hx.t hs
 refine run_ret1 (by kernel_rfl) Tryz.func43 Tryz.results43 rfl ?_
 exact ⟨rfl, hT.out1 (by decide)⟩
namespace F80
noncomputable def c0 := bodyOf Tryz.f80
end F80
theorem couple_ok {w₀ : World} {C : Nat → Nat} {x y : Couple} (hF : Lim w₀ C) : Calls Tryz.prog 80 #[.agg #[.int .i64 x.a, .int .i64 x.b], .agg #[.int .i64 y.a, .int .i64 y.b]] w₀ (Ret fun v w' => v = .bool (cplOK x y) ∧ Stp [] w₀ C w' C) := by
 have hF0 := hF
 have hT := Stp.refl [2, 3, 4, 5, 6, 7, 8, 9] w₀ (col1 C)
 replace hF := hF.col1
 refine calls_start (c := F80.c0) (N := 18) [.agg #[.int .i64 x.a, .int .i64 x.b], .agg #[.int .i64 y.a, .int .i64 y.b]] Tryz.func80 (by kernel_rfl) (by kernel_rfl) (by kernel_rfl) ?_
 show Run _ _ _ _ [(0, .agg #[.int .i64 x.a, .int .i64 x.b]), (1, .agg #[.int .i64 y.a, .int .i64 y.b])] _ _
 refine run_sq ?_
 refine run_pl [nn 0, nn 1, yy 2] ?_
 refine aS (kq 2 (.box 32 (.tmp 0))) rfl rfl (a_box (cs := [.int .i64 x.a, .int .i64 x.b]) hF 3 rfl rfl) ?_
 rintro _ w1 ⟨Cw1, bw1, rfl, hs, hx, hF⟩
 refine ⟨trivial, ?_⟩
 replace hT := hT.t hs
 refine aS (kq 3 (.box 32 (.tmp 1))) rfl rfl (a_box (cs := [.int .i64 y.a, .int .i64 y.b]) hF 3 rfl rfl) ?_
 rintro _ w2 ⟨Cw2, bw2, rfl, hs, hy, hF⟩
 refine ⟨trivial, ?_⟩
 replace hT := hT.t hs; replace hx := hx.t hs
 refine yAc 4 (.bool false) ?_
 refine Sch.nil ?_
 refine kp (sub_cons 2 rfl rfl (sub_cons 3 rfl rfl (sub_nil _))) ?_
 refine run_sq ?_
 refine run_cut 4 (cplOK x y) (Cw2) ?_ ?_
 ·
  intro hcut
  by_cases hA : refOK x = true
  ·
   by_cases hB : refOK y = true
   ·
    refine run_pl [nn 0, nn 1, yy 2, nn 3, nn 4, yy 5, yy 6, yy 7, nn 8, yy 9, nn 10, yy 11, yy 12, yy 13] ?_
    have hcs := Stp.reflF hF
    refine nS (kq 5 (.load 32 (.tmp 2))) rfl rfl trivial (val_loadOwnAgg (n := 2) hx.at_ (by kernel_rfl) (by kernel_rfl) rfl rfl rfl) ?_
    refine cS (kq 6 (.call { callee := .value (.func 43), args := #[(.tmp 5)], argTypes := #[32] })) rfl rfl (ent Tryz.call43 rfl) (greyRef_ok hF) ?_
    rintro vw3 w3 ⟨rfl, hs⟩
    rw [hA]
    refine ⟨trivial, ?_⟩
    replace hF := hF.st hs
    replace hT := hT.t hs; replace hx := hx.t hs; replace hy := hy.t hs; replace hcs := hcs.t hs
    refine yM 7 6 ?_
    refine nS (kg 8 (.load 32 (.tmp 3)) 2 true) rfl rfl trivial (val_loadOwnAgg (n := 2) hy.at_ (by kernel_rfl) (by kernel_rfl) rfl rfl rfl) ?_
    refine cS (kg 9 (.call { callee := .value (.func 43), args := #[(.tmp 8)], argTypes := #[32] }) 2 true) rfl rfl (ent Tryz.call43 rfl) (greyRef_ok hF) ?_
    rintro vw4 w4 ⟨rfl, hs⟩
    rw [hB]
    refine ⟨trivial, ?_⟩
    replace hF := hF.st hs
    replace hT := hT.t hs; replace hx := hx.t hs; replace hy := hy.t hs; replace hcs := hcs.t hs
    refine yAt 10 7 9 ?_
    refine yM 11 10 ?_
    refine yFg 12 32 2 0 0 6 true ?_
    refine nS (kg 13 (.load 3 (.tmp 12)) 6 true) rfl rfl trivial (val_loadOwn hx.at_ (by kernel_rfl) rfl rfl) ?_
    refine yFg 14 32 3 0 0 6 true ?_
    refine nS (kg 15 (.load 3 (.tmp 14)) 6 true) rfl rfl trivial (val_loadOwn hy.at_ (by kernel_rfl) rfl rfl) ?_
    refine yV (kg 16 (.binOp .lss 3 (.tmp 13) (.tmp 15) 3) 6 true) (fun _ => val_lss rfl rfl) ?_
    refine yAt 17 11 16 ?_
    refine yA 4 17 ?_
    exact Sch.nil (hcut _ _ _ hcs rfl (by unfold cplOK; rw [hA, hB]; rfl) (sk 14))
   ·
    refine run_pl [nn 0, nn 1, yy 2, nn 3, nn 4, yy 5, yy 6, yy 7, nn 8, yy 9, nn 10, yy 11, yy 12, yy 13] ?_
    have hcs := Stp.reflF hF
    refine nS (kq 5 (.load 32 (.tmp 2))) rfl rfl trivial (val_loadOwnAgg (n := 2) hx.at_ (by kernel_rfl) (by kernel_rfl) rfl rfl rfl) ?_
    refine cS (kq 6 (.call { callee := .value (.func 43), args := #[(.tmp 5)], argTypes := #[32] })) rfl rfl (ent Tryz.call43 rfl) (greyRef_ok hF) ?_
    rintro vw5 w5 ⟨rfl, hs⟩
    rw [hA]
    refine ⟨trivial, ?_⟩
    replace hF := hF.st hs
    replace hT := hT.t hs; replace hx := hx.t hs; replace hy := hy.t hs; replace hcs := hcs.t hs
    refine yM 7 6 ?_
    refine nS (kg 8 (.load 32 (.tmp 3)) 2 true) rfl rfl trivial (val_loadOwnAgg (n := 2) hy.at_ (by kernel_rfl) (by kernel_rfl) rfl rfl rfl) ?_
    refine cS (kg 9 (.call { callee := .value (.func 43), args := #[(.tmp 8)], argTypes := #[32] }) 2 true) rfl rfl (ent Tryz.call43 rfl) (greyRef_ok hF) ?_
    rintro vw6 w6 ⟨rfl, hs⟩
    rw [Bool.eq_false_iff.2 hB]
    refine ⟨trivial, ?_⟩
    replace hF := hF.st hs
    replace hT := hT.t hs; replace hx := hx.t hs; replace hy := hy.t hs; replace hcs := hcs.t hs
    refine yAt 10 7 9 ?_
    refine yM 11 10 ?_
    refine pX 12 6 true ?_
    refine pW (kg 13 (.load 3 (.tmp 12)) 6 true) rfl rfl trivial ?_
    refine pX 14 6 true ?_
    refine pW (kg 15 (.load 3 (.tmp 14)) 6 true) rfl rfl trivial ?_
    refine pX 16 6 true ?_
    refine yAf 17 11 16 ?_
    refine yA 4 17 ?_
    exact Sch.nil (hcut _ _ _ hcs rfl (by unfold cplOK; rw [hA, Bool.eq_false_iff.2 hB]; simp) (sk 14))
  ·
   refine run_pl [nn 0, nn 1, yy 2, nn 3, nn 4, yy 5, yy 6, yy 7, nn 8, yy 9, nn 10, yy 11, yy 12, yy 13] ?_
   have hcs := Stp.reflF hF
   refine nS (kq 5 (.load 32 (.tmp 2))) rfl rfl trivial (val_loadOwnAgg (n := 2) hx.at_ (by kernel_rfl) (by kernel_rfl) rfl rfl rfl) ?_
   refine cS (kq 6 (.call { callee := .value (.func 43), args := #[(.tmp 5)], argTypes := #[32] })) rfl rfl (ent Tryz.call43 rfl) (greyRef_ok hF) ?_
   rintro vw7 w7 ⟨rfl, hs⟩
   rw [Bool.eq_false_iff.2 hA]
   refine ⟨trivial, ?_⟩
   replace hF := hF.st hs
   replace hT := hT.t hs; replace hx := hx.t hs; replace hy := hy.t hs; replace hcs := hcs.t hs
   refine yM 7 6 ?_
   refine pW (kg 8 (.load 32 (.tmp 3)) 2 true) rfl rfl trivial ?_
   refine pW (kg 9 (.call { callee := .value (.func 43), args := #[(.tmp 8)], argTypes := #[32] }) 2 true) rfl rfl trivial ?_
   refine yAf 10 7 9 ?_
   refine yM 11 10 ?_
   refine pX 12 6 true ?_
   refine pW (kg 13 (.load 3 (.tmp 12)) 6 true) rfl rfl trivial ?_
   refine pX 14 6 true ?_
   refine pW (kg 15 (.load 3 (.tmp 14)) 6 true) rfl rfl trivial ?_
   refine pX 16 6 true ?_
   refine yAf 17 11 16 ?_
   refine yA 4 17 ?_
   exact Sch.nil (hcut _ _ _ hcs rfl (by unfold cplOK; rw [Bool.eq_false_iff.2 hA]; simp) (sk 14))
 intro w8 hs
 replace hF := hF.st hs
 replace hT := hT.t hs; replace hx := hx.t hs; replace hy := hy.t hs
 refine run_ret1 (by kernel_rfl) Tryz.func80 Tryz.results80 rfl ?_
 exact ⟨rfl, hT.out1 (by decide)⟩
namespace F102
noncomputable def c0 := bodyOf Tryz.f102
noncomputable def o1 := rops (cl (cr c0))
end F102
theorem couples_ok {w₀ : World} {C : Nat → Nat} {a b c d : Couple} (hF : Lim w₀ C) : Calls Tryz.prog 102 #[.agg #[.int .i64 a.a, .int .i64 a.b], .agg #[.int .i64 b.a, .int .i64 b.b], .agg #[.int .i64 c.a, .int .i64 c.b], .agg #[.int .i64 d.a, .int .i64 d.b]] w₀ (Ret fun v w' => v = .int .i64 (cmp2 a b c d) ∧ Stp [] w₀ C w' C) := by
 have hF0 := hF
 have hT := Stp.refl [2, 3, 4, 5, 6, 7, 8, 9] w₀ (col1 C)
 replace hF := hF.col1
 refine calls_start (c := F102.c0) (N := 17) [.agg #[.int .i64 a.a, .int .i64 a.b], .agg #[.int .i64 b.a, .int .i64 b.b], .agg #[.int .i64 c.a, .int .i64 c.b], .agg #[.int .i64 d.a, .int .i64 d.b]] Tryz.func102 (by kernel_rfl) (by kernel_rfl) (by kernel_rfl) ?_
 show Run _ _ _ _ [(0, .agg #[.int .i64 a.a, .int .i64 a.b]), (1, .agg #[.int .i64 b.a, .int .i64 b.b]), (2, .agg #[.int .i64 c.a, .int .i64 c.b]), (3, .agg #[.int .i64 d.a, .int .i64 d.b])] _ _
 refine run_sq ?_
 refine run_pl [nn 0, nn 1, nn 2, nn 3, yy 4] ?_
 refine aS (kq 4 (.box 32 (.tmp 0))) rfl rfl (a_box (cs := [.int .i64 a.a, .int .i64 a.b]) hF 3 rfl rfl) ?_
 rintro _ w1 ⟨Cw1, bw1, rfl, hs, ha, hF⟩
 refine ⟨trivial, ?_⟩
 replace hT := hT.t hs
 refine aS (kq 5 (.box 32 (.tmp 1))) rfl rfl (a_box (cs := [.int .i64 b.a, .int .i64 b.b]) hF 3 rfl rfl) ?_
 rintro _ w2 ⟨Cw2, bw2, rfl, hs, hb, hF⟩
 refine ⟨trivial, ?_⟩
 replace hT := hT.t hs; replace ha := ha.t hs
 refine aS (kq 6 (.box 32 (.tmp 2))) rfl rfl (a_box (cs := [.int .i64 c.a, .int .i64 c.b]) hF 3 rfl rfl) ?_
 rintro _ w3 ⟨Cw3, bw3, rfl, hs, hc, hF⟩
 refine ⟨trivial, ?_⟩
 replace hT := hT.t hs; replace ha := ha.t hs; replace hb := hb.t hs
 refine aS (kq 7 (.box 32 (.tmp 3))) rfl rfl (a_box (cs := [.int .i64 d.a, .int .i64 d.b]) hF 3 rfl rfl) ?_
 rintro _ w4 ⟨Cw4, bw4, rfl, hs, hd, hF⟩
 refine ⟨trivial, ?_⟩
 replace hT := hT.t hs; replace ha := ha.t hs; replace hb := hb.t hs; replace hc := hc.t hs
 refine yAc 8 (.int .i64 0) ?_
 refine Sch.nil ?_
 refine run_sq ?_
 refine run_draw (id := 1) (ops := F102.o1) [] (Cw4) [yy 0, yy 1, yy 3, yy 4, nn 2, nn 5, nn 6, nn 7, yy 8] Tryz_mixed (by kernel_rfl) (by kernel_rfl) (by kernel_rfl) ?_
 intro w5 hs
 replace hF := hF.st hs
 replace hT := hT.t hs; replace ha := ha.t hs; replace hb := hb.t hs; replace hc := hc.t hs; replace hd := hd.t hs
 have hR := Stp.refl [] w5 (Cw4)
 refine yS (kq 9 (.load 32 (.tmp 4))) rfl rfl (fun w' hS => val_loadOwnAgg (n := 2) (ha.stay hS (by decide)) (by kernel_rfl) (by kernel_rfl) rfl rfl rfl) ?_
 refine yS (kq 10 (.load 32 (.tmp 6))) rfl rfl (fun w' hS => val_loadOwnAgg (n := 2) (hc.stay hS (by decide)) (by kernel_rfl) (by kernel_rfl) rfl rfl rfl) ?_
 refine yS (kq 12 (.load 32 (.tmp 5))) rfl rfl (fun w' hS => val_loadOwnAgg (n := 2) (hb.stay hS (by decide)) (by kernel_rfl) (by kernel_rfl) rfl rfl rfl) ?_
 refine yS (kq 13 (.load 32 (.tmp 7))) rfl rfl (fun w' hS => val_loadOwnAgg (n := 2) (hd.stay hS (by decide)) (by kernel_rfl) (by kernel_rfl) rfl rfl rfl) ?_
 refine cS (kq 11 (.call { callee := .value (.func 78), args := #[(.tmp 9), (.tmp 10)], argTypes := #[32, 32] })) rfl rfl (ent Tryz.call78 rfl) (compare_ok hF) ?_
 rintro vw6 w6 ⟨rfl, hs⟩
 refine ⟨(hR.trans hs (by simp)).ext, ?_⟩
 replace hF := hF.st hs
 replace hT := hT.t hs; replace ha := ha.t hs; replace hb := hb.t hs; replace hc := hc.t hs; replace hd := hd.t hs; replace hR := hR.t hs
 refine cS (kq 14 (.call { callee := .value (.func 78), args := #[(.tmp 12), (.tmp 13)], argTypes := #[32, 32] })) rfl rfl (ent Tryz.call78 rfl) (compare_ok hF) ?_
 rintro vw7 w7 ⟨rfl, hs⟩
 refine ⟨(hR.trans hs (by simp)).ext, ?_⟩
 replace hF := hF.st hs
 replace hT := hT.t hs; replace ha := ha.t hs; replace hb := hb.t hs; replace hc := hc.t hs; replace hd := hd.t hs; replace hR := hR.t hs
 refine aS (kq 15 (.buildSlice 22 2 #[(0, (.tmp 11)), (1, (.tmp 14))])) rfl rfl (a_buildSlice (ys := ([cmpC a c, cmpC b d] : List Int)) (e := 3) (bytes := 8) hF (by kernel_rfl) rfl (by decide) (by decide) ⟨rfl, ⟨_, rfl, rv_int.2 rfl⟩, rfl, ⟨_, rfl, rv_int.2 rfl⟩, trivial⟩) ?_
 rintro v15 w8 ⟨hs, g15, hF⟩
 refine ⟨(hR.trans hs (by simp)).ext, ?_⟩
 replace hT := hT.t hs; replace ha := ha.t hs; replace hb := hb.t hs; replace hc := hc.t hs; replace hd := hd.t hs; replace hR := hR.t hs
 refine cS (kq 16 (.call { callee := .value (.func 77), args := #[(.tmp 15)], argTypes := #[22] })) rfl rfl (ent Tryz.call77 rfl) (orI_ok g15) ?_
 rintro vw9 w9 ⟨rfl, rfl⟩
 refine ⟨hR.ext, ?_⟩
 refine yA 8 16 ?_
 refine Sch.nil ?_
 refine run_ret1 (by kernel_rfl) Tryz.func102 Tryz.results102 rfl ?_
 exact ⟨rfl, hT.out1 (by decide)⟩
namespace F44
noncomputable def c0 := bodyOf Tryz.f44
end F44
theorem ver_ok (x : Int) (w : World) : Calls Tryz.prog 44 #[.int .i64 x] w (Ret fun v w' => v = .bool (verOK x) ∧ w' = w) := by
 refine calls_start (c := F44.c0) (N := 9) [.int .i64 x] Tryz.func44 (by kernel_rfl) (by kernel_rfl) (by kernel_rfl) ?_
 show Run _ _ _ _ [(0, .int .i64 x)] _ _
 refine run_sq ?_
 refine run_pl [yy 0] ?_
 refine yAc 2 (.bool false) ?_
 refine Sch.nil ?_
 refine run_sq ?_
 by_cases hA : 1 ≤ x
 ·
  refine run_pl [yy 0, yy 1, yy 2, yy 3, yy 4, yy 5, yy 6] ?_
  refine yM 3 0 ?_
  refine yV (kq 4 (.binOp .geq 3 (.tmp 3) (.const (.int .i64 1)) 3)) (fun _ => val_T (val_geq rfl rfl) hA) ?_
  refine yM 5 4 ?_
  refine yMg 6 0 2 true ?_
  refine yV (kg 7 (.binOp .leq 3 (.tmp 6) (.const (.int .i64 1048576)) 3) 2 true) (fun _ => val_leq rfl rfl) ?_
  refine yAt 8 5 7 ?_
  refine yA 2 8 ?_
  refine Sch.nil ?_
  refine run_ret1 (by kernel_rfl) Tryz.func44 Tryz.results44 rfl ?_
  exact ⟨by unfold verOK; congr 1; apply decide_eq_decide.2; omega, rfl⟩
 ·
  refine run_pl [yy 0, yy 1, yy 2, yy 3, yy 4, yy 5, yy 6] ?_
  refine yM 3 0 ?_
  refine yV (kq 4 (.binOp .geq 3 (.tmp 3) (.const (.int .i64 1)) 3)) (fun _ => val_F (val_geq rfl rfl) hA) ?_
  refine yM 5 4 ?_
  refine pX 6 2 true ?_
  refine pX 7 2 true ?_
  refine yAf 8 5 7 ?_
  refine yA 2 8 ?_
  refine Sch.nil ?_
  refine run_ret1 (by kernel_rfl) Tryz.func44 Tryz.results44 rfl ?_
  exact ⟨by unfold verOK; rw [decide_eq_false (fun e => hA e.1)], rfl⟩
namespace F81
noncomputable def c0 := bodyOf Tryz.f81
end F81
theorem verG_ok (x : Int) (w : World) : Calls Tryz.prog 81 #[.int .i64 x] w (Ret fun v w' => v = .bool (verOK x) ∧ w' = w) := by
 refine calls_start (c := F81.c0) (N := 9) [.int .i64 x] Tryz.func81 (by kernel_rfl) (by kernel_rfl) (by kernel_rfl) ?_
 show Run _ _ _ _ [(0, .int .i64 x)] _ _
 refine run_sq ?_
 refine run_pl [yy 0] ?_
 refine yAc 2 (.bool false) ?_
 refine Sch.nil ?_
 refine run_sq ?_
 by_cases hA : 1 ≤ x
 ·
  refine run_pl [yy 0, yy 1, yy 2, yy 3, yy 4, yy 5, yy 6] ?_
  refine yM 3 0 ?_
  refine yV (kq 4 (.binOp .geq 3 (.tmp 3) (.const (.int .i64 1)) 3)) (fun _ => val_T (val_geq rfl rfl) hA) ?_
  refine yM 5 4 ?_
  refine yMg 6 0 2 true ?_
  refine yV (kg 7 (.binOp .leq 3 (.tmp 6) (.const (.int .i64 1048576)) 3) 2 true) (fun _ => val_leq rfl rfl) ?_
  refine yAt 8 5 7 ?_
  refine yA 2 8 ?_
  refine Sch.nil ?_
  refine run_ret1 (by kernel_rfl) Tryz.func81 Tryz.results81 rfl ?_
  exact ⟨by unfold verOK; congr 1; apply decide_eq_decide.2; omega, rfl⟩
 ·
  refine run_pl [yy 0, yy 1, yy 2, yy 3, yy 4, yy 5, yy 6] ?_
  refine yM 3 0 ?_
  refine yV (kq 4 (.binOp .geq 3 (.tmp 3) (.const (.int .i64 1)) 3)) (fun _ => val_F (val_geq rfl rfl) hA) ?_
  refine yM 5 4 ?_
  refine pX 6 2 true ?_
  refine pX 7 2 true ?_
  refine yAf 8 5 7 ?_
  refine yA 2 8 ?_
  refine Sch.nil ?_
  refine run_ret1 (by kernel_rfl) Tryz.func81 Tryz.results81 rfl ?_
  exact ⟨by unfold verOK; rw [decide_eq_false (fun e => hA e.1)], rfl⟩
namespace F45
noncomputable def c0 := bodyOf Tryz.f45
noncomputable def o1 := rops (cl (cr c0))
end F45
theorem compareS_ok {w₀ : World} {C : Nat → Nat} {x y : Shw} (hF : Lim w₀ C) : Calls Tryz.prog 45 #[.agg (encS x).toArray, .agg (encS y).toArray] w₀ (Ret fun v w' => v = .int .i64 (cmpS x y) ∧ Stp [] w₀ C w' C) := by
 have hF0 := hF
 have hT := Stp.refl [2, 3, 4, 5, 6, 7, 8, 9] w₀ (col1 C)
 replace hF := hF.col1
 refine calls_start (c := F45.c0) (N := 22) [.agg (encS x).toArray, .agg (encS y).toArray] Tryz.func45 (by kernel_rfl) (by kernel_rfl) (by kernel_rfl) ?_
 show Run _ _ _ _ [(0, .agg (encS x).toArray), (1, .agg (encS y).toArray)] _ _
 refine run_sq ?_
 refine run_pl [nn 0, nn 1, yy 2] ?_
 refine aS (kq 2 (.box 50 (.tmp 0))) rfl rfl (a_box (cs := encS x) hF 3 rfl rfl) ?_
 rintro _ w1 ⟨Cw1, bw1, rfl, hs, hx, hF⟩
 refine ⟨trivial, ?_⟩
 replace hT := hT.t hs
 refine aS (kq 3 (.box 50 (.tmp 1))) rfl rfl (a_box (cs := encS y) hF 3 rfl rfl) ?_
 rintro _ w2 ⟨Cw2, bw2, rfl, hs, hy, hF⟩
 refine ⟨trivial, ?_⟩
 replace hT := hT.t hs; replace hx := hx.t hs
 refine yAc 4 (.int .i64 0) ?_
 refine Sch.nil ?_
 refine run_sq ?_
 refine run_draw (id := 1) (ops := F45.o1) [] (Cw2) [yy 0, yy 1, yy 2, yy 3, yy 5, yy 6, yy 7, yy 8, yy 10, yy 11, yy 12, yy 13, nn 4, nn 9, nn 14, nn 15, nn 16, yy 17] Tryz_mixed (by kernel_rfl) (by kernel_rfl) (by kernel_rfl) ?_
 intro w3 hs
 replace hF := hF.st hs
 replace hT := hT.t hs; replace hx := hx.t hs; replace hy := hy.t hs
 have hR := Stp.refl [] w3 (Cw2)
 refine yF 5 50 2 0 0 ?_
 refine yS (kq 6 (.load 32 (.tmp 5))) rfl rfl (fun w' hS => val_loadOwnAgg (n := 2) (vs := encR x.r) (hx.stay hS (by decide)) (by kernel_rfl) (by kernel_rfl) rfl rfl rfl) ?_
 refine yF 7 50 3 0 0 ?_
 refine yS (kq 8 (.load 32 (.tmp 7))) rfl rfl (fun w' hS => val_loadOwnAgg (n := 2) (vs := encR y.r) (hy.stay hS (by decide)) (by kernel_rfl) (by kernel_rfl) rfl rfl rfl) ?_
 refine yF 10 50 2 1 2 ?_
 refine yS (kq 11 (.load 3 (.tmp 10))) rfl rfl (fun w' hS => val_loadOwn (hx.sy hS) (by kernel_rfl) rfl rfl) ?_
 refine yF 12 50 3 1 2 ?_
 refine yS (kq 13 (.load 3 (.tmp 12))) rfl rfl (fun w' hS => val_loadOwn (hy.sy hS) (by kernel_rfl) rfl rfl) ?_
 refine yF 15 50 2 2 3 ?_
 refine yS (kq 16 (.load 3 (.tmp 15))) rfl rfl (fun w' hS => val_loadOwn (hx.sy hS) (by kernel_rfl) rfl rfl) ?_
 refine yF 17 50 3 2 3 ?_
 refine yS (kq 18 (.load 3 (.tmp 17))) rfl rfl (fun w' hS => val_loadOwn (hy.sy hS) (by kernel_rfl) rfl rfl) ?_
 refine cS (kq 9 (.call { callee := .value (.func 78), args := #[(.tmp 6), (.tmp 8)], argTypes := #[32, 32] })) rfl rfl (ent Tryz.call78 rfl) (compare_ok (x := x.r) (y := y.r) hF) ?_
 rintro vw4 w4 ⟨rfl, hs⟩
 refine ⟨(hR.trans hs (by simp)).ext, ?_⟩
 replace hF := hF.st hs
 replace hT := hT.t hs; replace hx := hx.t hs; replace hy := hy.t hs; replace hR := hR.t hs
 refine cS (kq 14 (.call { callee := .value (.func 79), args := #[(.tmp 11), (.tmp 13)], argTypes := #[3, 3] })) rfl rfl (ent Tryz.call79 rfl) (cmpI_ok _ _ _) ?_
 rintro vw5 w5 ⟨rfl, rfl⟩
 refine ⟨hR.ext, ?_⟩
 refine cS (kq 19 (.call { callee := .value (.func 79), args := #[(.tmp 16), (.tmp 18)], argTypes := #[3, 3] })) rfl rfl (ent Tryz.call79 rfl) (cmpI_ok _ _ _) ?_
 rintro vw6 w6 ⟨rfl, rfl⟩
 refine ⟨hR.ext, ?_⟩
 refine aS (kq 20 (.buildSlice 22 3 #[(0, (.tmp 9)), (1, (.tmp 14)), (2, (.tmp 19))])) rfl rfl (a_buildSlice (ys := ([cmpC x.r y.r, cmpI x.ver y.ver, cmpI x.fld y.fld] : List Int)) (e := 3) (bytes := 8) hF (by kernel_rfl) rfl (by decide) (by decide) ⟨rfl, ⟨_, rfl, rv_int.2 rfl⟩, rfl, ⟨_, rfl, rv_int.2 rfl⟩, rfl, ⟨_, rfl, rv_int.2 rfl⟩, trivial⟩) ?_
 rintro v20 w7 ⟨hs, g20, hF⟩
 refine ⟨(hR.trans hs (by simp)).ext, ?_⟩
 replace hT := hT.t hs; replace hx := hx.t hs; replace hy := hy.t hs; replace hR := hR.t hs
 refine cS (kq 21 (.call { callee := .value (.func 77), args := #[(.tmp 20)], argTypes := #[22] })) rfl rfl (ent Tryz.call77 rfl) (orI_ok g20) ?_
 rintro vw8 w8 ⟨rfl, rfl⟩
 refine ⟨hR.ext, ?_⟩
 refine yA 4 21 ?_
 refine Sch.nil ?_
 refine run_ret1 (by kernel_rfl) Tryz.func45 Tryz.results45 rfl ?_
 exact ⟨rfl, hT.out1 (by decide)⟩
namespace F69
noncomputable def c0 := bodyOf Tryz.f69
noncomputable def o1 := rops (cl (cr c0))
end F69
theorem decisions_ok {w₀ : World} {C : Nat → Nat} {x y : Dcs} (hF : Lim w₀ C) : Calls Tryz.prog 69 #[.agg (encD x).toArray, .agg (encD y).toArray] w₀ (Ret fun v w' => v = .int .i64 (cmpD x y) ∧ Stp [] w₀ C w' C) := by
 have hF0 := hF
 have hT := Stp.refl [2, 3, 4, 5, 6, 7, 8, 9] w₀ (col1 C)
 replace hF := hF.col1
 refine calls_start (c := F69.c0) (N := 26) [.agg (encD x).toArray, .agg (encD y).toArray] Tryz.func69 (by kernel_rfl) (by kernel_rfl) (by kernel_rfl) ?_
 show Run _ _ _ _ [(0, .agg (encD x).toArray), (1, .agg (encD y).toArray)] _ _
 refine run_sq ?_
 refine run_pl [nn 0, nn 1, yy 2] ?_
 refine aS (kq 2 (.box 75 (.tmp 0))) rfl rfl (a_box (cs := encD x) hF 3 rfl rfl) ?_
 rintro _ w1 ⟨Cw1, bw1, rfl, hs, hx, hF⟩
 refine ⟨trivial, ?_⟩
 replace hT := hT.t hs
 refine aS (kq 3 (.box 75 (.tmp 1))) rfl rfl (a_box (cs := encD y) hF 3 rfl rfl) ?_
 rintro _ w2 ⟨Cw2, bw2, rfl, hs, hy, hF⟩
 refine ⟨trivial, ?_⟩
 replace hT := hT.t hs; replace hx := hx.t hs
 refine yAc 4 (.int .i64 0) ?_
 refine Sch.nil ?_
 refine run_sq ?_
 refine run_draw (id := 1) (ops := F69.o1) [] (Cw2) [yy 0, yy 1, yy 2, yy 3, yy 4, yy 5, yy 6, yy 7, yy 9, yy 10, yy 11, yy 12, yy 14, yy 15, yy 16, yy 17, nn 8, nn 13, nn 18, nn 19, nn 20, yy 21] Tryz_mixed (by kernel_rfl) (by kernel_rfl) (by kernel_rfl) ?_
 intro w3 hs
 replace hF := hF.st hs
 replace hT := hT.t hs; replace hx := hx.t hs; replace hy := hy.t hs
 have hR := Stp.refl [] w3 (Cw2)
 refine yF 5 75 2 0 0 ?_
 refine yS (kq 6 (.load 32 (.tmp 5))) rfl rfl (fun w' hS => val_loadOwnAgg (n := 2) (vs := encR x.A) (hx.stay hS (by decide)) (by kernel_rfl) (by kernel_rfl) rfl rfl rfl) ?_
 refine yF 7 75 2 1 2 ?_
 refine yS (kq 8 (.load 32 (.tmp 7))) rfl rfl (fun w' hS => val_loadOwnAgg (n := 2) (vs := encR x.B) (hx.stay hS (by decide)) (by kernel_rfl) (by kernel_rfl) rfl rfl rfl) ?_
 refine yF 9 75 3 0 0 ?_
 refine yS (kq 10 (.load 32 (.tmp 9))) rfl rfl (fun w' hS => val_loadOwnAgg (n := 2) (vs := encR y.A) (hy.stay hS (by decide)) (by kernel_rfl) (by kernel_rfl) rfl rfl rfl) ?_
 refine yF 11 75 3 1 2 ?_
 refine yS (kq 12 (.load 32 (.tmp 11))) rfl rfl (fun w' hS => val_loadOwnAgg (n := 2) (vs := encR y.B) (hy.stay hS (by decide)) (by kernel_rfl) (by kernel_rfl) rfl rfl rfl) ?_
 refine yF 14 75 2 2 4 ?_
 refine yS (kq 15 (.load 3 (.tmp 14))) rfl rfl (fun w' hS => val_loadOwn (hx.sy hS) (by kernel_rfl) rfl rfl) ?_
 refine yF 16 75 3 2 4 ?_
 refine yS (kq 17 (.load 3 (.tmp 16))) rfl rfl (fun w' hS => val_loadOwn (hy.sy hS) (by kernel_rfl) rfl rfl) ?_
 refine yF 19 75 2 3 5 ?_
 refine yS (kq 20 (.load 3 (.tmp 19))) rfl rfl (fun w' hS => val_loadOwn (hx.sy hS) (by kernel_rfl) rfl rfl) ?_
 refine yF 21 75 3 3 5 ?_
 refine yS (kq 22 (.load 3 (.tmp 21))) rfl rfl (fun w' hS => val_loadOwn (hy.sy hS) (by kernel_rfl) rfl rfl) ?_
 refine cS (kq 13 (.call { callee := .value (.func 102), args := #[(.tmp 6), (.tmp 8), (.tmp 10), (.tmp 12)], argTypes := #[32, 32, 32, 32] })) rfl rfl (ent Tryz.call102 rfl) (couples_ok (a := x.A) (b := x.B) (c := y.A) (d := y.B) hF) ?_
 rintro vw4 w4 ⟨rfl, hs⟩
 refine ⟨(hR.trans hs (by simp)).ext, ?_⟩
 replace hF := hF.st hs
 replace hT := hT.t hs; replace hx := hx.t hs; replace hy := hy.t hs; replace hR := hR.t hs
 refine cS (kq 18 (.call { callee := .value (.func 79), args := #[(.tmp 15), (.tmp 17)], argTypes := #[3, 3] })) rfl rfl (ent Tryz.call79 rfl) (cmpI_ok _ _ _) ?_
 rintro vw5 w5 ⟨rfl, rfl⟩
 refine ⟨hR.ext, ?_⟩
 refine cS (kq 23 (.call { callee := .value (.func 79), args := #[(.tmp 20), (.tmp 22)], argTypes := #[3, 3] })) rfl rfl (ent Tryz.call79 rfl) (cmpI_ok _ _ _) ?_
 rintro vw6 w6 ⟨rfl, rfl⟩
 refine ⟨hR.ext, ?_⟩
 refine aS (kq 24 (.buildSlice 22 3 #[(0, (.tmp 13)), (1, (.tmp 18)), (2, (.tmp 23))])) rfl rfl (a_buildSlice (ys := ([cmp2 x.A x.B y.A y.B, cmpI x.va y.va, cmpI x.vb y.vb] : List Int)) (e := 3) (bytes := 8) hF (by kernel_rfl) rfl (by decide) (by decide) ⟨rfl, ⟨_, rfl, rv_int.2 rfl⟩, rfl, ⟨_, rfl, rv_int.2 rfl⟩, rfl, ⟨_, rfl, rv_int.2 rfl⟩, trivial⟩) ?_
 rintro v24 w7 ⟨hs, g24, hF⟩
 refine ⟨(hR.trans hs (by simp)).ext, ?_⟩
 replace hT := hT.t hs; replace hx := hx.t hs; replace hy := hy.t hs; replace hR := hR.t hs
 refine cS (kq 25 (.call { callee := .value (.func 77), args := #[(.tmp 24)], argTypes := #[22] })) rfl rfl (ent Tryz.call77 rfl) (orI_ok g24) ?_
 rintro vw8 w8 ⟨rfl, rfl⟩
 refine ⟨hR.ext, ?_⟩
 refine yA 4 25 ?_
 refine Sch.nil ?_
 refine run_ret1 (by kernel_rfl) Tryz.func69 Tryz.results69 rfl ?_
 exact ⟨rfl, hT.out1 (by decide)⟩
end Go.Proofs.YtionghonhnedgaaGreat
