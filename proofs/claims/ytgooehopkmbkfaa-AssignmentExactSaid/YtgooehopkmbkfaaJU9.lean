/- Steps through functions of the program. -/
import Derived.Test.YtgooehopkmbkfaaJU8
set_option linter.unusedVariables false
set_option linter.unusedSimpArgs false
set_option maxRecDepth 100000
set_option maxHeartbeats 4000000
namespace Go.Proofs.Ytgooehopkmbkfaa
open Go.K Go.K.Rep

namespace F22
noncomputable def c0 := bodyOf Try.f22
noncomputable def c7 := (cl (cl (cr (cl (cr c0)))))
noncomputable def c15 := (cl (cr (cr (cr (cr c0)))))
end F22
/-- 'Proves'. -/
theorem proves_ok {w₀ : World} {C : Nat → Nat} {n m : Int} {l : List K.Edge} {cs : List Couple} {ul vl : List Int} {pl pc pu pv : Value} (hF : Lim w₀ C) (hl : RV w₀ (Mc C) l pl) (hc : RV w₀ (Mc C) cs pc) (hu : RV w₀ (Mc C) ul pu) (hv : RV w₀ (Mc C) vl pv) (hcl : cs.length ≤ 1000000) :
    Calls Try.prog 22 #[.int .i64 n, .int .i64 m, pl, pc, pu, pv] w₀ (Ret fun v w' => v = .bool (pvB n m l cs ul vl) ∧ Stp [] w₀ C w' C) := by
 have hF0 := hF
 have hT := Stp.refl [2, 3, 4, 5, 6, 7, 8, 9] w₀ (col1 C)
 replace hF := hF.col1
 replace hl : RV w₀ (Mc (col1 C)) l pl := by rw [Mc_col1]; exact hl
 replace hc : RV w₀ (Mc (col1 C)) cs pc := by rw [Mc_col1]; exact hc
 replace hu : RV w₀ (Mc (col1 C)) ul pu := by rw [Mc_col1]; exact hu
 replace hv : RV w₀ (Mc (col1 C)) vl pv := by rw [Mc_col1]; exact hv
 refine calls_start (c := F22.c0) (N := 46) [.int .i64 n, .int .i64 m, pl, pc, pu, pv] Try.func22 (by kernel_rfl) (by kernel_rfl) (by kernel_rfl) ?_
 show Run _ _ _ _ [(0, .int .i64 n), (1, .int .i64 m), (2, pl), (3, pc), (4, pu), (5, pv)] _ _
 refine run_sq ?_
 refine run_pl [yy 0] ?_
 refine yAc 12 (.bool false) ?_
 refine Sch.nil ?_
 refine kp (sub_cons 0 rfl rfl (sub_cons 1 rfl rfl (sub_cons 2 rfl rfl (sub_cons 3 rfl rfl (sub_cons 4 rfl rfl (sub_cons 5 rfl rfl (sub_nil _))))))) ?_
 refine run_sq ?_
 refine run_sq ?_
 refine run_pl [yy 0, yy 1, yy 2, nn 3, yy 4] ?_
 refine yM 17 0 ?_
 refine yM 18 1 ?_
 refine yM 19 2 ?_
 refine cS (kq 20 (.call { callee := .value (.func 17), args := #[(.tmp 17), (.tmp 18), (.tmp 19)], argTypes := #[3, 3, 23] })) rfl rfl (ent Try.call17 rfl) (echeck_ok (n := n) (m := m) hF hl) ?_
 rintro vw1 w1 ⟨rfl, hs⟩
 refine ⟨trivial, ?_⟩
 replace hF := hF.st hs
 replace hT := hT.t hs; replace hl := hl.t hs; replace hc := hc.t hs; replace hu := hu.t hs; replace hv := hv.t hs
 refine yV (kq 21 (.binOp .neq 35 (.tmp 20) (.const (.int .i64 0)) 35)) (fun _ => val_neq rfl rfl) ?_
 refine Sch.nil ?_
 refine run_i 21 rfl (fun h21 => ?_) (fun h21 => ?_)
 ·
  refine run_sq ?_
  refine run_pl [yy 0] ?_
  refine yAc 12 (.bool false) ?_
  refine Sch.nil ?_
  refine run_ret1 (by kernel_rfl) Try.func22 Try.results22 rfl ?_
  exact ⟨by
    have hf : pvB n m l cs ul vl = false := Bool.eq_false_iff.2 (fun e => h21 (pvB_iff.1 e).1)
    rw [hf], hT.out1 (by decide)⟩
 ·
  have hck : chkE n m l = 0 := Classical.not_not.1 h21
  have hV := chkE_zero hck
  refine run_sk ?_
  refine run_sq ?_
  refine run_pl [yy 0, yy 1, yy 2, yy 3, yy 4, nn 5, yy 6, yy 7, yy 8, yy 9, yy 10] ?_
  refine yM 23 0 ?_
  refine yM 24 1 ?_
  refine yM 25 2 ?_
  refine yM 26 4 ?_
  refine yM 27 5 ?_
  refine cS (kq 28 (.call { callee := .value (.func 39), args := #[(.tmp 23), (.tmp 24), (.tmp 25), (.tmp 26), (.tmp 27)], argTypes := #[3, 3, 23, 22, 22] })) rfl rfl (ent Try.call39 rfl) (priced_ok hF hV hl hu hv) ?_
  rintro vw2 w2 ⟨t1, b1, rfl, hs, hp1, hp2⟩
  refine ⟨trivial, ?_⟩
  replace hF := hF.st hs
  replace hT := hT.t hs; replace hl := hl.t hs; replace hc := hc.t hs; replace hu := hu.t hs; replace hv := hv.t hs
  refine yM 22 28 ?_
  refine yV (kq 29 (.extract (.tmp 22) 0)) (fun _ => val_extract rfl rfl) ?_
  refine yV (kq 30 (.extract (.tmp 22) 1)) (fun _ => val_extract rfl rfl) ?_
  refine yA 13 29 ?_
  refine yA 14 30 ?_
  refine Sch.nil ?_
  refine run_sq ?_
  refine run_pl [yy 0, yy 1, nn 2, yy 3, yy 4, yy 5, yy 6, yy 7] ?_
  refine yM 32 2 ?_
  refine yM 33 3 ?_
  refine cS (kq 34 (.call { callee := .value (.func 40), args := #[(.tmp 32), (.tmp 33)], argTypes := #[23, 24] })) rfl rfl (ent Try.call40 rfl) (chosen_ok hF hV hl hc hcl) ?_
  rintro vw3 w3 ⟨t2, b2, rfl, hs, hc1, hc2⟩
  refine ⟨trivial, ?_⟩
  replace hF := hF.st hs
  replace hT := hT.t hs; replace hl := hl.t hs; replace hc := hc.t hs; replace hu := hu.t hs; replace hv := hv.t hs
  refine yM 31 34 ?_
  refine yV (kq 35 (.extract (.tmp 31) 0)) (fun _ => val_extract rfl rfl) ?_
  refine yV (kq 36 (.extract (.tmp 31) 1)) (fun _ => val_extract rfl rfl) ?_
  refine yA 15 35 ?_
  refine yA 16 36 ?_
  refine Sch.nil ?_
  refine run_sq ?_
  refine run_cut 12 (pvB n m l cs ul vl) (col1 C) ?_ ?_
  ·
   intro hcut
   by_cases hA : b1 = true
   ·
    by_cases hB : b2 = true
    ·
     refine run_pl [yy 0, yy 1, yy 2, yy 3, yy 4, yy 5, yy 6, yy 7, yy 8, yy 9] ?_
     refine yV (kq 37 (.move (.tmp 14))) (fun _ => val_is (val_move rfl) (show _ = Value.bool true from congrArg Value.bool (hA))) ?_
     refine yM 38 37 ?_
     refine yV (kg 39 (.move (.tmp 16)) 1 true) (fun _ => val_is (val_move rfl) (show _ = Value.bool true from congrArg Value.bool (hB))) ?_
     refine yAt 40 38 39 ?_
     refine yM 41 40 ?_
     refine yMg 42 13 4 true ?_
     refine yMg 43 15 4 true ?_
     refine yV (kg 44 (.binOp .eql 3 (.tmp 42) (.tmp 43) 3) 4 true) (fun _ => val_eql rfl rfl) ?_
     refine yAt 45 41 44 ?_
     refine yA 12 45 ?_
     exact Sch.nil (hcut _ _ _ (Stp.refl _ _ _) rfl (by unfold pvB; congr 1; apply decide_eq_decide.2; simp only [hp2 hA, hc2 hB]; exact ⟨fun e => ⟨hck, hp1.1 hA, hc1.1 hB, e⟩, fun e => e.2.2.2⟩) (sk 10))
    ·
     refine run_pl [yy 0, yy 1, yy 2, yy 3, yy 4, yy 5, yy 6, yy 7, yy 8, yy 9] ?_
     refine yV (kq 37 (.move (.tmp 14))) (fun _ => val_is (val_move rfl) (show _ = Value.bool true from congrArg Value.bool (hA))) ?_
     refine yM 38 37 ?_
     refine yV (kg 39 (.move (.tmp 16)) 1 true) (fun _ => val_is (val_move rfl) (show _ = Value.bool false from congrArg Value.bool (Bool.eq_false_iff.2 hB))) ?_
     refine yAt 40 38 39 ?_
     refine yM 41 40 ?_
     refine pX 42 4 true ?_
     refine pX 43 4 true ?_
     refine pX 44 4 true ?_
     refine yAf 45 41 44 ?_
     refine yA 12 45 ?_
     exact Sch.nil (hcut _ _ _ (Stp.refl _ _ _) rfl (by
  have hf : pvB n m l cs ul vl = false := Bool.eq_false_iff.2 (fun e => hB (hc1.2 (pvB_iff.1 e).2.2.1))
  rw [hf]) (sk 10))
   ·
    refine run_pl [yy 0, yy 1, yy 2, yy 3, yy 4, yy 5, yy 6, yy 7, yy 8, yy 9] ?_
    refine yV (kq 37 (.move (.tmp 14))) (fun _ => val_is (val_move rfl) (show _ = Value.bool false from congrArg Value.bool (Bool.eq_false_iff.2 hA))) ?_
    refine yM 38 37 ?_
    refine pX 39 1 true ?_
    refine yAf 40 38 39 ?_
    refine yM 41 40 ?_
    refine pX 42 4 true ?_
    refine pX 43 4 true ?_
    refine pX 44 4 true ?_
    refine yAf 45 41 44 ?_
    refine yA 12 45 ?_
    exact Sch.nil (hcut _ _ _ (Stp.refl _ _ _) rfl (by
  have hf : pvB n m l cs ul vl = false := Bool.eq_false_iff.2 (fun e => hA (hp1.2 (pvB_iff.1 e).2.1))
  rw [hf]) (sk 10))
  intro w4 hs
  replace hF := hF.st hs
  replace hT := hT.t hs; replace hl := hl.t hs; replace hc := hc.t hs; replace hu := hu.t hs; replace hv := hv.t hs
  refine run_ret1 (by kernel_rfl) Try.func22 Try.results22 rfl ?_
  exact ⟨rfl, hT.out1 (by decide)⟩
end Go.Proofs.Ytgooehopkmbkfaa
