/- Steps through functions of the program. -/
import Derived.Test.YtgooehopkmbkfaaJXB
import Derived.Test.YtgooehopkmbkfaaL2
set_option linter.unusedVariables false
set_option linter.unusedSimpArgs false
set_option maxRecDepth 100000
set_option maxHeartbeats 4000000
namespace Go.Proofs.Ytgooehopkmbkfaa
open Go.K Go.K.Rep

theorem solL_len {n m : Int} {l : List K.Edge} : (solL n m l).length ≤ 64 := by
  unfold solL
  split
  · rename_i h
    have hV := chkE_zero h
    have h1 := outS_len n.toNat m.toNat (bst n.toNat m.toNat (pos (edW l)))
    have := hV.n1
    omega
  · simp
namespace F3
noncomputable def c0 := bodyOf Try.f3
noncomputable def c7 := (cl (cl (cr (cl (cr c0)))))
noncomputable def c15 := (cl (cr (cr (cr (cr c0)))))
noncomputable def c16 := (cr (cr (cr (cr (cr c0)))))
noncomputable def c24 := (cl (cr (cl (cr (cr c16)))))
noncomputable def c33 := (cl (cl (cr (cr (cl c24)))))
noncomputable def c40 := (cl (cl (cl (cr (cr c33)))))
noncomputable def c41 := (cr (cl (cl (cr (cr c33)))))
noncomputable def c50 := (cl (cr (cl (cl (cr c41)))))
noncomputable def o14 := rops (cl c50)
noncomputable def c57 := (cr (cr (cl (cl (cr c41)))))
noncomputable def c65 := (cl (cr (cl (cr (cr c57)))))
noncomputable def c71 := (cl (cl (cr (cr (cr c57)))))
noncomputable def o20 := rops c71
noncomputable def c72 := (cr (cl (cr (cr (cr c57)))))
noncomputable def c78 := (cl (cr (cr (cr (cr c57)))))
noncomputable def c79 := (cr (cr (cr (cr (cr c57)))))
noncomputable def c93 := (cl (cl (cr (cr (cr c79)))))
noncomputable def c102 := (cl (cl (cl (cr (cr c93)))))
noncomputable def c103 := (cr (cl (cl (cr (cr c93)))))
noncomputable def o29 := rops (cl c103)
end F3
/-- The statement's function answers true. -/
theorem assignmentExact_ok {w₀ : World} {C : Nat → Nat} {l : List Int} {raw : List K.Edge} {cs : List Couple} {ul vl : List Int} {vq vr pc pu pv : Value} {n m : Int} (hF : Lim w₀ C) (hl : RV w₀ (Mc C) l vq) (hraw : RV w₀ (Mc C) raw vr) (hc : RV w₀ (Mc C) cs pc) (hu : RV w₀ (Mc C) ul pu) (hv : RV w₀ (Mc C) vl pv) : Calls Try.prog 3 #[vq, vr, .int .i64 n, .int .i64 m, pc, pu, pv] w₀ (Ret fun v w' => v = .bool true ∧ Stp [] w₀ C w' C) := by
 have hF0 := hF
 have hT := Stp.refl [2, 3, 4, 5, 6, 7, 8, 9] w₀ (col1 C)
 replace hF := hF.col1
 replace hl : RV w₀ (Mc (col1 C)) l vq := by rw [Mc_col1]; exact hl
 replace hraw : RV w₀ (Mc (col1 C)) raw vr := by rw [Mc_col1]; exact hraw
 replace hc : RV w₀ (Mc (col1 C)) cs pc := by rw [Mc_col1]; exact hc
 replace hu : RV w₀ (Mc (col1 C)) ul pu := by rw [Mc_col1]; exact hu
 replace hv : RV w₀ (Mc (col1 C)) vl pv := by rw [Mc_col1]; exact hv
 refine calls_start (c := F3.c0) (N := 227) [vq, vr, .int .i64 n, .int .i64 m, pc, pu, pv] Try.func3 (by kernel_rfl) (by kernel_rfl) (by kernel_rfl) ?_
 show Run _ _ _ _ [(0, vq), (1, vr), (2, .int .i64 n), (3, .int .i64 m), (4, pc), (5, pu), (6, pv)] _ _
 refine run_sq ?_
 refine run_pl [yy 0] ?_
 refine yAc 14 (.bool false) ?_
 refine Sch.nil ?_
 refine run_sq ?_
 refine run_sq ?_
 by_cases hA : (l.length : Int) ≤ 400
 ·
  by_cases hB : (30 : Int) < (raw.length : Int)
  ·
   refine run_pl [nn 0, yy 1, yy 2, yy 3, nn 4, yy 5, yy 6, yy 7, yy 8, yy 9, yy 10, yy 11, yy 12, yy 13, yy 14, yy 15, yy 16, yy 17, yy 18, yy 19, yy 20, yy 21, yy 22, yy 23, yy 24, yy 25, yy 26] ?_
   refine cS (kq 39 (.call { callee := .value (.func 10), args := #[], argTypes := #[] })) rfl rfl (ent Try.call10 rfl) (awake_ok hF) ?_
   rintro vw1 w1 ⟨rfl, hs⟩
   refine ⟨trivial, ?_⟩
   replace hF := hF.st hs
   replace hT := hT.t hs; replace hl := hl.t hs; replace hraw := hraw.t hs; replace hc := hc.t hs; replace hu := hu.t hs; replace hv := hv.t hs
   refine yV (kq 40 (.unOp .not 4 (.tmp 39))) (fun _ => val_not rfl) ?_
   refine yM 41 40 ?_
   refine yMg 42 0 2 false ?_
   refine cS (kg 43 (.call { callee := .value (.func 11), args := #[(.tmp 42)], argTypes := #[22] }) 2 false) rfl rfl (ent Try.call11 rfl) (few_any hl) ?_
   rintro vw2 w2 ⟨rfl, rfl⟩
   rw [decide_eq_true (hA)]
   refine ⟨trivial, ?_⟩
   refine yV (kg 44 (.unOp .not 4 (.tmp 43)) 2 false) (fun _ => val_not rfl) ?_
   refine yOf 45 41 44 ?_
   refine yM 46 45 ?_
   refine yMg 47 1 7 false ?_
   refine yS (kg 48 (.call { callee := .builtin .len, args := #[(.tmp 47)], argTypes := #[23] }) 7 false) rfl rfl (fun w' hS => hraw.lenV rfl Try.underlying23 w' ) ?_
   refine yV (kg 49 (.binOp .gtr 3 (.tmp 48) (.const (.int .i64 30)) 3) 7 false) (fun _ => val_T (val_gtr rfl rfl) hB) ?_
   refine yOf 50 46 49 ?_
   refine yM 51 50 ?_
   refine pX 52 12 false ?_
   refine pX 53 12 false ?_
   refine pX 54 12 false ?_
   refine yOt 55 51 54 ?_
   refine yM 56 55 ?_
   refine pX 57 17 false ?_
   refine pX 58 17 false ?_
   refine pX 59 17 false ?_
   refine yOt 60 56 59 ?_
   refine yM 61 60 ?_
   refine pX 62 22 false ?_
   refine pX 63 22 false ?_
   refine pX 64 22 false ?_
   refine yOt 65 61 64 ?_
   refine Sch.nil ?_
   refine run_cT 65 ?_
   refine run_sq ?_
   refine run_pl [nn 0, yy 1] ?_
   refine cS (kq 66 (.call { callee := .value (.func 10), args := #[], argTypes := #[] })) rfl rfl (ent Try.call10 rfl) (awake_ok hF) ?_
   rintro vw3 w3 ⟨rfl, hs⟩
   refine ⟨trivial, ?_⟩
   replace hF := hF.st hs
   replace hT := hT.t hs; replace hl := hl.t hs; replace hraw := hraw.t hs; replace hc := hc.t hs; replace hu := hu.t hs; replace hv := hv.t hs
   refine yA 14 66 ?_
   refine Sch.nil ?_
   refine run_ret1 (by kernel_rfl) Try.func3 Try.results3 rfl ?_
   exact ⟨rfl, hT.out1 (by decide)⟩
  ·
   by_cases hC : (30 : Int) < (cs.length : Int)
   ·
    refine run_pl [nn 0, yy 1, yy 2, yy 3, nn 4, yy 5, yy 6, yy 7, yy 8, yy 9, yy 10, yy 11, yy 12, yy 13, yy 14, yy 15, yy 16, yy 17, yy 18, yy 19, yy 20, yy 21, yy 22, yy 23, yy 24, yy 25, yy 26] ?_
    refine cS (kq 39 (.call { callee := .value (.func 10), args := #[], argTypes := #[] })) rfl rfl (ent Try.call10 rfl) (awake_ok hF) ?_
    rintro vw4 w4 ⟨rfl, hs⟩
    refine ⟨trivial, ?_⟩
    replace hF := hF.st hs
    replace hT := hT.t hs; replace hl := hl.t hs; replace hraw := hraw.t hs; replace hc := hc.t hs; replace hu := hu.t hs; replace hv := hv.t hs
    refine yV (kq 40 (.unOp .not 4 (.tmp 39))) (fun _ => val_not rfl) ?_
    refine yM 41 40 ?_
    refine yMg 42 0 2 false ?_
    refine cS (kg 43 (.call { callee := .value (.func 11), args := #[(.tmp 42)], argTypes := #[22] }) 2 false) rfl rfl (ent Try.call11 rfl) (few_any hl) ?_
    rintro vw5 w5 ⟨rfl, rfl⟩
    rw [decide_eq_true (hA)]
    refine ⟨trivial, ?_⟩
    refine yV (kg 44 (.unOp .not 4 (.tmp 43)) 2 false) (fun _ => val_not rfl) ?_
    refine yOf 45 41 44 ?_
    refine yM 46 45 ?_
    refine yMg 47 1 7 false ?_
    refine yS (kg 48 (.call { callee := .builtin .len, args := #[(.tmp 47)], argTypes := #[23] }) 7 false) rfl rfl (fun w' hS => hraw.lenV rfl Try.underlying23 w' ) ?_
    refine yV (kg 49 (.binOp .gtr 3 (.tmp 48) (.const (.int .i64 30)) 3) 7 false) (fun _ => val_F (val_gtr rfl rfl) hB) ?_
    refine yOf 50 46 49 ?_
    refine yM 51 50 ?_
    refine yMg 52 4 12 false ?_
    refine yS (kg 53 (.call { callee := .builtin .len, args := #[(.tmp 52)], argTypes := #[24] }) 12 false) rfl rfl (fun w' hS => hc.lenV rfl Try.underlying24 w' ) ?_
    refine yV (kg 54 (.binOp .gtr 3 (.tmp 53) (.const (.int .i64 30)) 3) 12 false) (fun _ => val_T (val_gtr rfl rfl) hC) ?_
    refine yOf 55 51 54 ?_
    refine yM 56 55 ?_
    refine pX 57 17 false ?_
    refine pX 58 17 false ?_
    refine pX 59 17 false ?_
    refine yOt 60 56 59 ?_
    refine yM 61 60 ?_
    refine pX 62 22 false ?_
    refine pX 63 22 false ?_
    refine pX 64 22 false ?_
    refine yOt 65 61 64 ?_
    refine Sch.nil ?_
    refine run_cT 65 ?_
    refine run_sq ?_
    refine run_pl [nn 0, yy 1] ?_
    refine cS (kq 66 (.call { callee := .value (.func 10), args := #[], argTypes := #[] })) rfl rfl (ent Try.call10 rfl) (awake_ok hF) ?_
    rintro vw6 w6 ⟨rfl, hs⟩
    refine ⟨trivial, ?_⟩
    replace hF := hF.st hs
    replace hT := hT.t hs; replace hl := hl.t hs; replace hraw := hraw.t hs; replace hc := hc.t hs; replace hu := hu.t hs; replace hv := hv.t hs
    refine yA 14 66 ?_
    refine Sch.nil ?_
    refine run_ret1 (by kernel_rfl) Try.func3 Try.results3 rfl ?_
    exact ⟨rfl, hT.out1 (by decide)⟩
   ·
    by_cases hD : (70 : Int) < (ul.length : Int)
    ·
     refine run_pl [nn 0, yy 1, yy 2, yy 3, nn 4, yy 5, yy 6, yy 7, yy 8, yy 9, yy 10, yy 11, yy 12, yy 13, yy 14, yy 15, yy 16, yy 17, yy 18, yy 19, yy 20, yy 21, yy 22, yy 23, yy 24, yy 25, yy 26] ?_
     refine cS (kq 39 (.call { callee := .value (.func 10), args := #[], argTypes := #[] })) rfl rfl (ent Try.call10 rfl) (awake_ok hF) ?_
     rintro vw7 w7 ⟨rfl, hs⟩
     refine ⟨trivial, ?_⟩
     replace hF := hF.st hs
     replace hT := hT.t hs; replace hl := hl.t hs; replace hraw := hraw.t hs; replace hc := hc.t hs; replace hu := hu.t hs; replace hv := hv.t hs
     refine yV (kq 40 (.unOp .not 4 (.tmp 39))) (fun _ => val_not rfl) ?_
     refine yM 41 40 ?_
     refine yMg 42 0 2 false ?_
     refine cS (kg 43 (.call { callee := .value (.func 11), args := #[(.tmp 42)], argTypes := #[22] }) 2 false) rfl rfl (ent Try.call11 rfl) (few_any hl) ?_
     rintro vw8 w8 ⟨rfl, rfl⟩
     rw [decide_eq_true (hA)]
     refine ⟨trivial, ?_⟩
     refine yV (kg 44 (.unOp .not 4 (.tmp 43)) 2 false) (fun _ => val_not rfl) ?_
     refine yOf 45 41 44 ?_
     refine yM 46 45 ?_
     refine yMg 47 1 7 false ?_
     refine yS (kg 48 (.call { callee := .builtin .len, args := #[(.tmp 47)], argTypes := #[23] }) 7 false) rfl rfl (fun w' hS => hraw.lenV rfl Try.underlying23 w' ) ?_
     refine yV (kg 49 (.binOp .gtr 3 (.tmp 48) (.const (.int .i64 30)) 3) 7 false) (fun _ => val_F (val_gtr rfl rfl) hB) ?_
     refine yOf 50 46 49 ?_
     refine yM 51 50 ?_
     refine yMg 52 4 12 false ?_
     refine yS (kg 53 (.call { callee := .builtin .len, args := #[(.tmp 52)], argTypes := #[24] }) 12 false) rfl rfl (fun w' hS => hc.lenV rfl Try.underlying24 w' ) ?_
     refine yV (kg 54 (.binOp .gtr 3 (.tmp 53) (.const (.int .i64 30)) 3) 12 false) (fun _ => val_F (val_gtr rfl rfl) hC) ?_
     refine yOf 55 51 54 ?_
     refine yM 56 55 ?_
     refine yMg 57 5 17 false ?_
     refine yS (kg 58 (.call { callee := .builtin .len, args := #[(.tmp 57)], argTypes := #[22] }) 17 false) rfl rfl (fun w' hS => hu.lenV rfl Try.underlying22 w' ) ?_
     refine yV (kg 59 (.binOp .gtr 3 (.tmp 58) (.const (.int .i64 70)) 3) 17 false) (fun _ => val_T (val_gtr rfl rfl) hD) ?_
     refine yOf 60 56 59 ?_
     refine yM 61 60 ?_
     refine pX 62 22 false ?_
     refine pX 63 22 false ?_
     refine pX 64 22 false ?_
     refine yOt 65 61 64 ?_
     refine Sch.nil ?_
     refine run_cT 65 ?_
     refine run_sq ?_
     refine run_pl [nn 0, yy 1] ?_
     refine cS (kq 66 (.call { callee := .value (.func 10), args := #[], argTypes := #[] })) rfl rfl (ent Try.call10 rfl) (awake_ok hF) ?_
     rintro vw9 w9 ⟨rfl, hs⟩
     refine ⟨trivial, ?_⟩
     replace hF := hF.st hs
     replace hT := hT.t hs; replace hl := hl.t hs; replace hraw := hraw.t hs; replace hc := hc.t hs; replace hu := hu.t hs; replace hv := hv.t hs
     refine yA 14 66 ?_
     refine Sch.nil ?_
     refine run_ret1 (by kernel_rfl) Try.func3 Try.results3 rfl ?_
     exact ⟨rfl, hT.out1 (by decide)⟩
    ·
     by_cases hE : (70 : Int) < (vl.length : Int)
     ·
      refine run_pl [nn 0, yy 1, yy 2, yy 3, nn 4, yy 5, yy 6, yy 7, yy 8, yy 9, yy 10, yy 11, yy 12, yy 13, yy 14, yy 15, yy 16, yy 17, yy 18, yy 19, yy 20, yy 21, yy 22, yy 23, yy 24, yy 25, yy 26] ?_
      refine cS (kq 39 (.call { callee := .value (.func 10), args := #[], argTypes := #[] })) rfl rfl (ent Try.call10 rfl) (awake_ok hF) ?_
      rintro vw10 w10 ⟨rfl, hs⟩
      refine ⟨trivial, ?_⟩
      replace hF := hF.st hs
      replace hT := hT.t hs; replace hl := hl.t hs; replace hraw := hraw.t hs; replace hc := hc.t hs; replace hu := hu.t hs; replace hv := hv.t hs
      refine yV (kq 40 (.unOp .not 4 (.tmp 39))) (fun _ => val_not rfl) ?_
      refine yM 41 40 ?_
      refine yMg 42 0 2 false ?_
      refine cS (kg 43 (.call { callee := .value (.func 11), args := #[(.tmp 42)], argTypes := #[22] }) 2 false) rfl rfl (ent Try.call11 rfl) (few_any hl) ?_
      rintro vw11 w11 ⟨rfl, rfl⟩
      rw [decide_eq_true (hA)]
      refine ⟨trivial, ?_⟩
      refine yV (kg 44 (.unOp .not 4 (.tmp 43)) 2 false) (fun _ => val_not rfl) ?_
      refine yOf 45 41 44 ?_
      refine yM 46 45 ?_
      refine yMg 47 1 7 false ?_
      refine yS (kg 48 (.call { callee := .builtin .len, args := #[(.tmp 47)], argTypes := #[23] }) 7 false) rfl rfl (fun w' hS => hraw.lenV rfl Try.underlying23 w' ) ?_
      refine yV (kg 49 (.binOp .gtr 3 (.tmp 48) (.const (.int .i64 30)) 3) 7 false) (fun _ => val_F (val_gtr rfl rfl) hB) ?_
      refine yOf 50 46 49 ?_
      refine yM 51 50 ?_
      refine yMg 52 4 12 false ?_
      refine yS (kg 53 (.call { callee := .builtin .len, args := #[(.tmp 52)], argTypes := #[24] }) 12 false) rfl rfl (fun w' hS => hc.lenV rfl Try.underlying24 w' ) ?_
      refine yV (kg 54 (.binOp .gtr 3 (.tmp 53) (.const (.int .i64 30)) 3) 12 false) (fun _ => val_F (val_gtr rfl rfl) hC) ?_
      refine yOf 55 51 54 ?_
      refine yM 56 55 ?_
      refine yMg 57 5 17 false ?_
      refine yS (kg 58 (.call { callee := .builtin .len, args := #[(.tmp 57)], argTypes := #[22] }) 17 false) rfl rfl (fun w' hS => hu.lenV rfl Try.underlying22 w' ) ?_
      refine yV (kg 59 (.binOp .gtr 3 (.tmp 58) (.const (.int .i64 70)) 3) 17 false) (fun _ => val_F (val_gtr rfl rfl) hD) ?_
      refine yOf 60 56 59 ?_
      refine yM 61 60 ?_
      refine yMg 62 6 22 false ?_
      refine yS (kg 63 (.call { callee := .builtin .len, args := #[(.tmp 62)], argTypes := #[22] }) 22 false) rfl rfl (fun w' hS => hv.lenV rfl Try.underlying22 w' ) ?_
      refine yV (kg 64 (.binOp .gtr 3 (.tmp 63) (.const (.int .i64 70)) 3) 22 false) (fun _ => val_T (val_gtr rfl rfl) hE) ?_
      refine yOf 65 61 64 ?_
      refine Sch.nil ?_
      refine run_cT 65 ?_
      refine run_sq ?_
      refine run_pl [nn 0, yy 1] ?_
      refine cS (kq 66 (.call { callee := .value (.func 10), args := #[], argTypes := #[] })) rfl rfl (ent Try.call10 rfl) (awake_ok hF) ?_
      rintro vw12 w12 ⟨rfl, hs⟩
      refine ⟨trivial, ?_⟩
      replace hF := hF.st hs
      replace hT := hT.t hs; replace hl := hl.t hs; replace hraw := hraw.t hs; replace hc := hc.t hs; replace hu := hu.t hs; replace hv := hv.t hs
      refine yA 14 66 ?_
      refine Sch.nil ?_
      refine run_ret1 (by kernel_rfl) Try.func3 Try.results3 rfl ?_
      exact ⟨rfl, hT.out1 (by decide)⟩
     ·
      refine run_pl [nn 0, yy 1, yy 2, yy 3, nn 4, yy 5, yy 6, yy 7, yy 8, yy 9, yy 10, yy 11, yy 12, yy 13, yy 14, yy 15, yy 16, yy 17, yy 18, yy 19, yy 20, yy 21, yy 22, yy 23, yy 24, yy 25, yy 26] ?_
      refine cS (kq 39 (.call { callee := .value (.func 10), args := #[], argTypes := #[] })) rfl rfl (ent Try.call10 rfl) (awake_ok hF) ?_
      rintro vw13 w13 ⟨rfl, hs⟩
      refine ⟨trivial, ?_⟩
      replace hF := hF.st hs
      replace hT := hT.t hs; replace hl := hl.t hs; replace hraw := hraw.t hs; replace hc := hc.t hs; replace hu := hu.t hs; replace hv := hv.t hs
      refine yV (kq 40 (.unOp .not 4 (.tmp 39))) (fun _ => val_not rfl) ?_
      refine yM 41 40 ?_
      refine yMg 42 0 2 false ?_
      refine cS (kg 43 (.call { callee := .value (.func 11), args := #[(.tmp 42)], argTypes := #[22] }) 2 false) rfl rfl (ent Try.call11 rfl) (few_any hl) ?_
      rintro vw14 w14 ⟨rfl, rfl⟩
      rw [decide_eq_true (hA)]
      refine ⟨trivial, ?_⟩
      refine yV (kg 44 (.unOp .not 4 (.tmp 43)) 2 false) (fun _ => val_not rfl) ?_
      refine yOf 45 41 44 ?_
      refine yM 46 45 ?_
      refine yMg 47 1 7 false ?_
      refine yS (kg 48 (.call { callee := .builtin .len, args := #[(.tmp 47)], argTypes := #[23] }) 7 false) rfl rfl (fun w' hS => hraw.lenV rfl Try.underlying23 w' ) ?_
      refine yV (kg 49 (.binOp .gtr 3 (.tmp 48) (.const (.int .i64 30)) 3) 7 false) (fun _ => val_F (val_gtr rfl rfl) hB) ?_
      refine yOf 50 46 49 ?_
      refine yM 51 50 ?_
      refine yMg 52 4 12 false ?_
      refine yS (kg 53 (.call { callee := .builtin .len, args := #[(.tmp 52)], argTypes := #[24] }) 12 false) rfl rfl (fun w' hS => hc.lenV rfl Try.underlying24 w' ) ?_
      refine yV (kg 54 (.binOp .gtr 3 (.tmp 53) (.const (.int .i64 30)) 3) 12 false) (fun _ => val_F (val_gtr rfl rfl) hC) ?_
      refine yOf 55 51 54 ?_
      refine yM 56 55 ?_
      refine yMg 57 5 17 false ?_
      refine yS (kg 58 (.call { callee := .builtin .len, args := #[(.tmp 57)], argTypes := #[22] }) 17 false) rfl rfl (fun w' hS => hu.lenV rfl Try.underlying22 w' ) ?_
      refine yV (kg 59 (.binOp .gtr 3 (.tmp 58) (.const (.int .i64 70)) 3) 17 false) (fun _ => val_F (val_gtr rfl rfl) hD) ?_
      refine yOf 60 56 59 ?_
      refine yM 61 60 ?_
      refine yMg 62 6 22 false ?_
      refine yS (kg 63 (.call { callee := .builtin .len, args := #[(.tmp 62)], argTypes := #[22] }) 22 false) rfl rfl (fun w' hS => hv.lenV rfl Try.underlying22 w' ) ?_
      refine yV (kg 64 (.binOp .gtr 3 (.tmp 63) (.const (.int .i64 70)) 3) 22 false) (fun _ => val_F (val_gtr rfl rfl) hE) ?_
      refine yOf 65 61 64 ?_
      refine Sch.nil ?_
      refine run_cF 65 ?_
      refine run_sk ?_
      refine run_sq ?_
      refine run_pl [yy 0, nn 1, yy 2] ?_
      refine yM 67 0 ?_
      refine cS (kq 68 (.call { callee := .value (.func 12), args := #[(.tmp 67)], argTypes := #[22] })) rfl rfl (ent Try.call12 rfl) (new_any hF hl) ?_
      rintro vw15 w15 ⟨Cd, bd, rfl, hs, hF, hd⟩
      refine ⟨trivial, ?_⟩
      replace hT := hT.t hs; replace hl := hl.t hs; replace hraw := hraw.t hs; replace hc := hc.t hs; replace hu := hu.t hs; replace hv := hv.t hs
      refine yA 15 68 ?_
      refine Sch.nil ?_
      refine run_sq ?_
      refine run_pl [yy 0, nn 1, yy 2, nn 3, yy 4, yy 5] ?_
      refine yM 69 15 ?_
      refine cS (kq 70 (.call { callee := .value (.func 13), args := #[(.tmp 69), (.const (.int .i64 6))], argTypes := #[27, 3] })) rfl rfl (ent Try.call13 rfl) (next_any (n := 6) hF (by decide) hd (by omega) (by omega)) ?_
      rintro vw16 w16 ⟨p, rfl, hp, hs, hd⟩
      refine ⟨trivial, ?_⟩
      replace hF := hF.st hs
      replace hT := hT.t hs; replace hl := hl.t hs; replace hraw := hraw.t hs; replace hc := hc.t hs; replace hu := hu.t hs; replace hv := hv.t hs
      refine yM 71 15 ?_
      refine cS (kq 72 (.call { callee := .value (.func 13), args := #[(.tmp 71), (.const (.int .i64 6))], argTypes := #[27, 3] })) rfl rfl (ent Try.call13 rfl) (next_any (n := 6) hF (by decide) hd (by omega) (by omega)) ?_
      rintro vw17 w17 ⟨q, rfl, hq, hs, hd⟩
      refine ⟨trivial, ?_⟩
      replace hF := hF.st hs
      replace hT := hT.t hs; replace hl := hl.t hs; replace hraw := hraw.t hs; replace hc := hc.t hs; replace hu := hu.t hs; replace hv := hv.t hs
      refine yA 16 70 ?_
      refine yA 17 72 ?_
      refine Sch.nil ?_
      refine run_sq ?_
      refine run_pl [yy 0, yy 1, yy 2, nn 3, yy 4] ?_
      refine yM 73 15 ?_
      refine yM 74 16 ?_
      refine yM 75 17 ?_
      refine cS (kq 76 (.call { callee := .value (.func 14), args := #[(.tmp 73), (.tmp 74), (.tmp 75), (.const (.int .i64 2))], argTypes := #[27, 3, 3, 3] })) rfl rfl (ent Try.call14 rfl) (edges_any (n := p) (m := q) (one := 2) hF (by decide) hd (by omega) (by omega) (by decide) (by decide)) ?_
      rintro v_el w18 ⟨el, hEd, ⟨hs, he, hd⟩, _⟩
      have hEdV := hEd.ve (by omega) (by omega)
      have hEdc := hEdV.check
      refine ⟨trivial, ?_⟩
      replace hF := hF.st hs
      replace hT := hT.t hs; replace hl := hl.t hs; replace hraw := hraw.t hs; replace hc := hc.t hs; replace hu := hu.t hs; replace hv := hv.t hs
      refine yA 18 76 ?_
      refine Sch.nil ?_
      refine run_sq ?_
      refine run_pl [yy 0, yy 1, yy 2, nn 3, yy 4] ?_
      refine yM 77 15 ?_
      refine yM 78 16 ?_
      refine yM 79 17 ?_
      refine cS (kq 80 (.call { callee := .value (.func 15), args := #[(.tmp 77), (.tmp 78), (.tmp 79)], argTypes := #[27, 3, 3] })) rfl rfl (ent Try.call15 rfl) (bentE_any (n := p) (m := q) hF (by decide) hd (by omega) (by omega)) ?_
      rintro v_bl w19 ⟨bl, hs, hb, hd⟩
      refine ⟨trivial, ?_⟩
      replace hF := hF.st hs
      replace hT := hT.t hs; replace hl := hl.t hs; replace hraw := hraw.t hs; replace hc := hc.t hs; replace hu := hu.t hs; replace hv := hv.t hs; replace he := he.t hs
      refine yA 19 80 ?_
      refine Sch.nil ?_
      refine run_sq ?_
      refine run_pl [yy 0] ?_
      refine yV (kq 20 (.assign (.func 16))) (fun _ => val_assign rfl) ?_
      refine Sch.nil ?_
      refine run_sq ?_
      refine run_sq ?_
      refine run_pl [yy 0, yy 1, yy 2, nn 3, yy 4, yy 5] ?_
      refine yM 81 1 ?_
      refine yM 82 18 ?_
      refine yM 83 19 ?_
      refine aS (kq 84 (.buildSlice 32 3 #[(0, (.tmp 81)), (1, (.tmp 82)), (2, (.tmp 83))])) rfl rfl (a_buildSlice (ys := ([raw, el, bl] : List (List K.Edge))) (e := 23) (bytes := 24) hF (by kernel_rfl) rfl (by decide) (by decide) ⟨rfl, ⟨_, rfl, hraw⟩, rfl, ⟨_, rfl, he⟩, rfl, ⟨_, rfl, hb⟩, trivial⟩) ?_
      rintro v84 w20 ⟨hs, hX, hF⟩
      refine ⟨trivial, ?_⟩
      replace hT := hT.t hs; replace hl := hl.t hs; replace hraw := hraw.t hs; replace hc := hc.t hs; replace hu := hu.t hs; replace hv := hv.t hs
      replace hd := hd.st hs (by first | decide | (simp <;> omega)) (by first | decide | (simp <;> omega))
      replace he := he.t hs; replace hb := hb.t hs
      obtain ⟨xl, hxl⟩ : ∃ x : List (List K.Edge), x = [raw, el, bl] := ⟨_, rfl⟩
      rw [← hxl] at hX
      have hx3 : xl.length = 3 := by rw [hxl]; rfl
      clear hd hb he hraw hl
      refine yS (kq 85 (.call { callee := .builtin .len, args := #[(.tmp 84)], argTypes := #[32] })) rfl rfl (fun w' hS => hX.lenV rfl Try.underlying32 w' ) ?_
      refine yV (kq 86 (.move (.const (.int .i64 0)))) (fun _ => val_move rfl) ?_
      refine Sch.nil ?_
      refine run_bk 0 ?_
      
      refine run_lp (ι := Nat × (Nat → Nat)) (I := fun x w => x.1 ≤ xl.length ∧ Lim w x.2 ∧ Stp [2, 3, 4, 5, 6, 7, 8, 9] w₀ (col1 C) w x.2 ∧ RV w (Mc x.2) xl v84 ∧ RV w (Mc x.2) cs pc ∧ RV w (Mc x.2) ul pu ∧ RV w (Mc x.2) vl pv) (e := fun x => [(2, .int .i64 n), (3, .int .i64 m), (4, pc), (5, pu), (6, pv), (16, .int .i64 p), (17, .int .i64 q), (20, .func (.func 16) #[] #[]), (84, v84), (85, .int .i64 xl.length), (86, .int .i64 x.1)]) (m := fun x => xl.length - x.1) (x₀ := (0, Cd)) (sr 2 (sr 3 (sr 4 (sr 5 (sr 6 (sr 16 (sr 17 (sr 20 (sr 84 (sr 85 (sr 86 (sub_nil _)))))))))))) ?_ ?_
      · exact ⟨Nat.zero_le _, hF, hT, hX, hc, hu, hv⟩
      intro ⟨k, C1⟩ w21 hI next
      obtain ⟨hk, hF, hT, hX, hc, hu, hv⟩ := hI
      try simp only at hk hF hT hX hc hu hv
      have next1 := next
      clear next
      show Run _ _ _ _ [(2, .int .i64 n), (3, .int .i64 m), (4, pc), (5, pu), (6, pv), (16, .int .i64 p), (17, .int .i64 q), (20, .func (.func 16) #[] #[]), (84, v84), (85, .int .i64 xl.length), (86, .int .i64 k)] _ _
      refine run_sq ?_
      refine run_pl [yy 0] ?_
      refine yV (kq 87 (.binOp .lss 3 (.tmp 86) (.tmp 85) 3)) (fun _ => val_lss rfl rfl) ?_
      refine Sch.nil ?_
      refine run_sq ?_
      refine run_i 87 rfl (fun h87 => ?_) (fun h87 => ?_)
      ·
       have hkl : k < xl.length := by omega
       refine run_sk ?_
       refine run_sq ?_
       refine run_bk 1 ?_
       refine run_sq ?_
       refine run_pl [yy 0, nn 1, yy 2] ?_
       refine iS (e := 23) (kq 88 (.indexAddr 32 (.tmp 84) (.tmp 86))) rfl rfl hX rfl (by kernel_rfl) rfl (by omega) (by omega) ?_
       intro b88 o88 h88
       try simp only [Int.toNat_natCast] at h88
       refine lN (kq 89 (.load 23 (.tmp 88))) rfl rfl trivial h88 (by kernel_rfl) rfl rfl ?_
       intro v89 g89
       refine yA 22 89 ?_
       refine Sch.nil ?_
       obtain ⟨xs, hxs⟩ : ∃ x, x = xl[k] := ⟨_, rfl⟩
       rw [← hxs] at g89
       refine run_sq ?_
       refine run_pl [yy 0, yy 1, yy 2, yy 3, yy 4, nn 5, yy 6, yy 7, nn 8, yy 9, yy 10, yy 11, nn 12, yy 13, yy 14] ?_
       refine yM 90 16 ?_
       refine yM 91 17 ?_
       refine yV (kq 92 (.build 33 #[(0, (.tmp 90)), (1, (.tmp 91))])) (fun _ => val_buildArr (zs := [.int .i64 0, .int .i64 0]) (cs := [.int .i64 p, .int .i64 q]) (qs := [(0, [.int .i64 p]), (1, [.int .i64 q])]) Try.underlying33 (by kernel_rfl) (by kernel_rfl) (by kernel_rfl) (by exact ⟨rfl, ⟨_, rfl, rfl⟩, rfl, ⟨_, rfl, rfl⟩, trivial⟩) rfl) ?_
       refine yM 93 20 ?_
       refine yM 94 2 ?_
       refine cS (kq 95 (.call { callee := .value (.tmp 93), args := #[(.tmp 94)], argTypes := #[3] })) rfl rfl (enters_func Try.call16 rfl rfl) (small1_ok (x := n)) ?_
       rintro vw22 w22 ⟨rfl, rfl⟩
       refine ⟨trivial, ?_⟩
       refine yM 96 20 ?_
       refine yM 97 3 ?_
       refine cS (kq 98 (.call { callee := .value (.tmp 96), args := #[(.tmp 97)], argTypes := #[3] })) rfl rfl (enters_func Try.call16 rfl rfl) (small1_ok (x := m)) ?_
       rintro vw23 w23 ⟨rfl, rfl⟩
       refine ⟨trivial, ?_⟩
       refine yV (kq 99 (.build 33 #[(0, (.tmp 95)), (1, (.tmp 98))])) (fun _ => val_buildArr (zs := [.int .i64 0, .int .i64 0]) (cs := [.int .i64 (min n 12), .int .i64 (min m 12)]) (qs := [(0, [.int .i64 (min n 12)]), (1, [.int .i64 (min m 12)])]) Try.underlying33 (by kernel_rfl) (by kernel_rfl) (by kernel_rfl) (by exact ⟨rfl, ⟨_, rfl, rfl⟩, rfl, ⟨_, rfl, rfl⟩, trivial⟩) rfl) ?_
       refine yV (kq 100 (.build 33 #[(0, (.const (.int .i64 (-1)))), (1, (.const (.int .i64 2)))])) (fun _ => val_buildArr (zs := [.int .i64 0, .int .i64 0]) (cs := [.int .i64 (-1), .int .i64 2]) (qs := [(0, [.int .i64 (-1)]), (1, [.int .i64 2])]) Try.underlying33 (by kernel_rfl) (by kernel_rfl) (by kernel_rfl) (by exact ⟨rfl, ⟨_, rfl, rfl⟩, rfl, ⟨_, rfl, rfl⟩, trivial⟩) rfl) ?_
       refine yV (kq 101 (.build 33 #[(0, (.const (.int .i64 2))), (1, (.const (.int .i64 65)))])) (fun _ => val_buildArr (zs := [.int .i64 0, .int .i64 0]) (cs := [.int .i64 2, .int .i64 65]) (qs := [(0, [.int .i64 2]), (1, [.int .i64 65])]) Try.underlying33 (by kernel_rfl) (by kernel_rfl) (by kernel_rfl) (by exact ⟨rfl, ⟨_, rfl, rfl⟩, rfl, ⟨_, rfl, rfl⟩, trivial⟩) rfl) ?_
       refine aS (kq 102 (.buildSlice 34 4 #[(0, (.tmp 92)), (1, (.tmp 99)), (2, (.tmp 100)), (3, (.tmp 101))])) rfl rfl (a_buildSlice (ys := ([⟨p, q⟩, ⟨min n 12, min m 12⟩, ⟨-1, 2⟩, ⟨2, 65⟩] : List Couple)) (e := 33) (bytes := 16) hF (by kernel_rfl) rfl (by decide) (by decide) ⟨rfl, ⟨_, rfl, rv_couple.2 rfl⟩, rfl, ⟨_, rfl, rv_couple.2 rfl⟩, rfl, ⟨_, rfl, rv_couple.2 rfl⟩, rfl, ⟨_, rfl, rv_couple.2 rfl⟩, trivial⟩) ?_
       rintro v102 w24 ⟨hs, hY, hF⟩
       refine ⟨trivial, ?_⟩
       replace hT := hT.t hs; replace hX := hX.t hs; replace hc := hc.t hs; replace hu := hu.t hs; replace hv := hv.t hs; replace h88 := h88.t hs; replace g89 := g89.t hs
       obtain ⟨yl, hyl⟩ : ∃ x : List Couple, x = [⟨p, q⟩, ⟨min n 12, min m 12⟩, ⟨-1, 2⟩, ⟨2, 65⟩] := ⟨_, rfl⟩
       rw [← hyl] at hY
       have hy4 : yl.length = 4 := by rw [hyl]; rfl
       refine yS (kq 103 (.call { callee := .builtin .len, args := #[(.tmp 102)], argTypes := #[34] })) rfl rfl (fun w' hS => hY.lenV rfl Try.underlying34 w' ) ?_
       refine yV (kq 104 (.move (.const (.int .i64 0)))) (fun _ => val_move rfl) ?_
       refine Sch.nil ?_
       refine run_bk 2 ?_
       
       refine run_lp (ι := Nat × (Nat → Nat)) (I := fun x w => x.1 ≤ yl.length ∧ Lim w x.2 ∧ Stp [2, 3, 4, 5, 6, 7, 8, 9] w₀ (col1 C) w x.2 ∧ RV w (Mc x.2) xl v84 ∧ RV w (Mc x.2) cs pc ∧ RV w (Mc x.2) ul pu ∧ RV w (Mc x.2) vl pv ∧ RV w (Mc x.2) xs v89 ∧ RV w (Mc x.2) yl v102) (e := fun x => [(2, .int .i64 n), (3, .int .i64 m), (4, pc), (5, pu), (6, pv), (16, .int .i64 p), (17, .int .i64 q), (20, .func (.func 16) #[] #[]), (22, v89), (84, v84), (85, .int .i64 xl.length), (86, .int .i64 k), (102, v102), (103, .int .i64 yl.length), (104, .int .i64 x.1)]) (m := fun x => yl.length - x.1) (x₀ := (0, C1)) (sr 2 (sr 3 (sr 4 (sr 5 (sr 6 (sr 16 (sr 17 (sr 20 (sr 22 (sr 84 (sr 85 (sr 86 (sr 102 (sr 103 (sr 104 (sub_nil _)))))))))))))))) ?_ ?_
       · exact ⟨Nat.zero_le _, hF, hT, hX, hc, hu, hv, g89, hY⟩
       intro ⟨j, C2⟩ w25 hI next
       obtain ⟨hj, hF, hT, hX, hc, hu, hv, g89, hY⟩ := hI
       try simp only at hj hF hT hX hc hu hv g89 hY
       have next2 := next
       clear next
       show Run _ _ _ _ [(2, .int .i64 n), (3, .int .i64 m), (4, pc), (5, pu), (6, pv), (16, .int .i64 p), (17, .int .i64 q), (20, .func (.func 16) #[] #[]), (22, v89), (84, v84), (85, .int .i64 xl.length), (86, .int .i64 k), (102, v102), (103, .int .i64 yl.length), (104, .int .i64 j)] _ _
       refine run_sq ?_
       refine run_pl [yy 0] ?_
       refine yV (kq 105 (.binOp .lss 3 (.tmp 104) (.tmp 103) 3)) (fun _ => val_lss rfl rfl) ?_
       refine Sch.nil ?_
       refine run_sq ?_
       refine run_i 105 rfl (fun h105 => ?_) (fun h105 => ?_)
       ·
        have hjl : j < yl.length := by omega
        refine run_sk ?_
        refine run_sq ?_
        refine run_bk 3 ?_
        refine run_sq ?_
        refine run_pl [yy 0, nn 1, nn 2, nn 3] ?_
        refine iS (e := 33) (kq 106 (.indexAddr 34 (.tmp 102) (.tmp 104))) rfl rfl hY rfl (by kernel_rfl) rfl (by omega) (by omega) ?_
        intro b106 o106 h106
        try simp only [Int.toNat_natCast] at h106
        refine lNA (kq 107 (.load 33 (.tmp 106))) rfl rfl trivial h106 (by kernel_rfl) (by kernel_rfl) rfl rfl ?_
        intro v107 g107
        obtain ⟨y, hye⟩ : ∃ y, y = yl[j] := ⟨_, rfl⟩
        rw [← hye] at g107
        obtain rfl := rv_couple.1 g107
        clear g107 h106
        refine aS (kq 24 (.alloc 33)) rfl rfl (a_alloc (cs := [.int .i64 0, .int .i64 0]) hF 4 (by kernel_rfl)) ?_
        rintro _ w26 ⟨Cw26, bw26, rfl, hs, hy, hF⟩
        refine ⟨trivial, ?_⟩
        replace hT := hT.t hs; replace hX := hX.t hs; replace hc := hc.t hs; replace hu := hu.t hs; replace hv := hv.t hs; replace g89 := g89.t hs; replace hY := hY.t hs
        refine aN (k0 (.store 33 (.tmp 24) (.tmp 107))) rfl (a_storeAll (vs := [.int .i64 y.a, .int .i64 y.b]) (n := 2) rfl rfl (by kernel_rfl) rfl rfl (by intro u hu; simp only [List.mem_cons, List.not_mem_nil, or_false] at hu; rcases hu with rfl | rfl <;> rfl) hy rfl) ?_
        rintro _ w27 ⟨rfl, hs, hy⟩
        refine ⟨trivial, ?_⟩
        replace hF := hF.st hs
        replace hT := hT.t hs; replace hX := hX.t hs; replace hc := hc.t hs; replace hu := hu.t hs; replace hv := hv.t hs; replace g89 := g89.t hs; replace hY := hY.t hs
        refine Sch.nil ?_
        refine run_sq ?_
        refine run_sq ?_
        refine run_draw (id := 14) (ops := F3.o14) [] (Cw26) [yy 0, yy 1, yy 2, yy 3, yy 4, yy 6, yy 7, yy 8, yy 9, yy 10, nn 5, nn 11, yy 12] Try_mixed (by kernel_rfl) (by kernel_rfl) (by kernel_rfl) ?_
        intro w28 hs
        replace hF := hF.st hs
        replace hT := hT.t hs; replace hX := hX.t hs; replace hc := hc.t hs; replace hu := hu.t hs; replace hv := hv.t hs; replace g89 := g89.t hs; replace hY := hY.t hs; replace hy := hy.t hs
        have hR := Stp.refl [] w28 (Cw26)
        refine yV (kq 108 (.indexAddr 33 (.tmp 24) (.const (.int .i64 0)))) (fun _ => val_indexArr (n := 1) (o' := 0) Try.underlying33 (by kernel_rfl) rfl rfl (by decide) (by decide) rfl) ?_
        refine yS (kq 109 (.load 3 (.tmp 108))) rfl rfl (fun w' hS => val_loadOwn (hy.sy hS) (by kernel_rfl) rfl rfl) ?_
        refine yV (kq 110 (.indexAddr 33 (.tmp 24) (.const (.int .i64 1)))) (fun _ => val_indexArr (n := 1) (o' := 1) Try.underlying33 (by kernel_rfl) rfl rfl (by decide) (by decide) rfl) ?_
        refine yS (kq 111 (.load 3 (.tmp 110))) rfl rfl (fun w' hS => val_loadOwn (hy.sy hS) (by kernel_rfl) rfl rfl) ?_
        refine yM 112 22 ?_
        refine yV (kq 114 (.indexAddr 33 (.tmp 24) (.const (.int .i64 0)))) (fun _ => val_indexArr (n := 1) (o' := 0) Try.underlying33 (by kernel_rfl) rfl rfl (by decide) (by decide) rfl) ?_
        refine yS (kq 115 (.load 3 (.tmp 114))) rfl rfl (fun w' hS => val_loadOwn (hy.sy hS) (by kernel_rfl) rfl rfl) ?_
        refine yV (kq 116 (.indexAddr 33 (.tmp 24) (.const (.int .i64 1)))) (fun _ => val_indexArr (n := 1) (o' := 1) Try.underlying33 (by kernel_rfl) rfl rfl (by decide) (by decide) rfl) ?_
        refine yS (kq 117 (.load 3 (.tmp 116))) rfl rfl (fun w' hS => val_loadOwn (hy.sy hS) (by kernel_rfl) rfl rfl) ?_
        refine yM 118 22 ?_
        refine cS (kq 113 (.call { callee := .value (.func 17), args := #[(.tmp 109), (.tmp 111), (.tmp 112)], argTypes := #[3, 3, 23] })) rfl rfl (ent Try.call17 rfl) (echeck_ok hF g89) ?_
        rintro vw29 w29 ⟨rfl, hs⟩
        refine ⟨(hR.trans hs (by simp)).ext, ?_⟩
        replace hF := hF.st hs
        replace hT := hT.t hs; replace hX := hX.t hs; replace hc := hc.t hs; replace hu := hu.t hs; replace hv := hv.t hs; replace g89 := g89.t hs; replace hY := hY.t hs; replace hy := hy.t hs; replace hR := hR.t hs
        refine cS (kq 119 (.call { callee := .value (.func 18), args := #[(.tmp 115), (.tmp 117), (.tmp 118)], argTypes := #[3, 3, 23] })) rfl rfl (ent Try.call18 rfl) (rcheck_ok hF g89) ?_
        rintro vw30 w30 ⟨rfl, hs⟩
        refine ⟨(hR.trans hs (by simp)).ext, ?_⟩
        replace hF := hF.st hs
        replace hT := hT.t hs; replace hX := hX.t hs; replace hc := hc.t hs; replace hu := hu.t hs; replace hv := hv.t hs; replace g89 := g89.t hs; replace hY := hY.t hs; replace hy := hy.t hs; replace hR := hR.t hs
        refine yV (kq 120 (.binOp .neq 35 (.tmp 113) (.tmp 119) 35)) (fun _ => val_F (val_neq rfl rfl) (fun h => h rfl)) ?_
        refine Sch.nil ?_
        refine run_cF 120 ?_
        refine run_sk ?_
        refine run_sq ?_
        refine run_pl [yy 0, nn 1, yy 2, nn 3, yy 4, nn 5, yy 6, yy 7, yy 8, yy 9, yy 10, yy 11, yy 12] ?_
        refine yV (kq 122 (.indexAddr 33 (.tmp 24) (.const (.int .i64 0)))) (fun _ => val_indexArr (n := 1) (o' := 0) Try.underlying33 (by kernel_rfl) rfl rfl (by decide) (by decide) rfl) ?_
        refine nS (kq 123 (.load 3 (.tmp 122))) rfl rfl trivial (val_loadOwn hy.at_ (by kernel_rfl) rfl rfl) ?_
        refine yV (kq 124 (.indexAddr 33 (.tmp 24) (.const (.int .i64 1)))) (fun _ => val_indexArr (n := 1) (o' := 1) Try.underlying33 (by kernel_rfl) rfl rfl (by decide) (by decide) rfl) ?_
        refine nS (kq 125 (.load 3 (.tmp 124))) rfl rfl trivial (val_loadOwn hy.at_ (by kernel_rfl) rfl rfl) ?_
        refine yM 126 22 ?_
        refine cS (kq 127 (.call { callee := .value (.func 19), args := #[(.tmp 123), (.tmp 125), (.tmp 126)], argTypes := #[3, 3, 23] })) rfl rfl (ent Try.call19 rfl) (solve_ok hF g89) ?_
        rintro vw31 w31 ⟨u1, rfl, hs, hc1⟩
        refine ⟨trivial, ?_⟩
        replace hF := hF.st hs
        replace hT := hT.t hs; replace hX := hX.t hs; replace hc := hc.t hs; replace hu := hu.t hs; replace hv := hv.t hs; replace g89 := g89.t hs; replace hY := hY.t hs; replace hy := hy.t hs
        refine yM 121 127 ?_
        refine yV (kq 128 (.extract (.tmp 121) 0)) (fun _ => val_extract rfl rfl) ?_
        refine yV (kq 129 (.extract (.tmp 121) 1)) (fun _ => val_extract rfl rfl) ?_
        refine yV (kq 130 (.extract (.tmp 121) 2)) (fun _ => val_extract rfl rfl) ?_
        refine yA 25 128 ?_
        refine yA 26 129 ?_
        refine yA 27 130 ?_
        refine Sch.nil ?_
        refine run_sq ?_
        refine run_pl [yy 0, nn 1, yy 2, nn 3, yy 4, nn 5, yy 6, yy 7, yy 8, yy 9, yy 10, yy 11, yy 12] ?_
        refine yV (kq 132 (.indexAddr 33 (.tmp 24) (.const (.int .i64 0)))) (fun _ => val_indexArr (n := 1) (o' := 0) Try.underlying33 (by kernel_rfl) rfl rfl (by decide) (by decide) rfl) ?_
        refine nS (kq 133 (.load 3 (.tmp 132))) rfl rfl trivial (val_loadOwn hy.at_ (by kernel_rfl) rfl rfl) ?_
        refine yV (kq 134 (.indexAddr 33 (.tmp 24) (.const (.int .i64 1)))) (fun _ => val_indexArr (n := 1) (o' := 1) Try.underlying33 (by kernel_rfl) rfl rfl (by decide) (by decide) rfl) ?_
        refine nS (kq 135 (.load 3 (.tmp 134))) rfl rfl trivial (val_loadOwn hy.at_ (by kernel_rfl) rfl rfl) ?_
        refine yM 136 22 ?_
        refine cS (kq 137 (.call { callee := .value (.func 20), args := #[(.tmp 133), (.tmp 135), (.tmp 136)], argTypes := #[3, 3, 23] })) rfl rfl (ent Try.call20 rfl) (rsolve_ok hF g89) ?_
        rintro vw32 w32 ⟨u2, rfl, hs, hc2⟩
        refine ⟨trivial, ?_⟩
        replace hF := hF.st hs
        replace hT := hT.t hs; replace hX := hX.t hs; replace hc := hc.t hs; replace hu := hu.t hs; replace hv := hv.t hs; replace g89 := g89.t hs; replace hY := hY.t hs; replace hy := hy.t hs; replace hc1 := hc1.t hs
        refine yM 131 137 ?_
        refine yV (kq 138 (.extract (.tmp 131) 0)) (fun _ => val_extract rfl rfl) ?_
        refine yV (kq 139 (.extract (.tmp 131) 1)) (fun _ => val_extract rfl rfl) ?_
        refine yV (kq 140 (.extract (.tmp 131) 2)) (fun _ => val_extract rfl rfl) ?_
        refine yA 28 138 ?_
        refine yA 29 139 ?_
        refine yA 30 140 ?_
        refine Sch.nil ?_
        refine run_sq ?_
        refine run_sq ?_
        refine run_pl [yy 0, yy 1, yy 2, yy 3, yy 4, yy 5, yy 6, yy 7, yy 8, yy 9, yy 10, nn 11, yy 12, yy 13] ?_
        refine yM 141 26 ?_
        refine yM 142 29 ?_
        refine yV (kq 143 (.binOp .neq 3 (.tmp 141) (.tmp 142) 3)) (fun _ => val_F (val_neq rfl rfl) (fun h => h rfl)) ?_
        refine yM 144 143 ?_
        refine yMg 145 27 3 false ?_
        refine yMg 146 30 3 false ?_
        refine yV (kg 147 (.binOp .neq 35 (.tmp 145) (.tmp 146) 35) 3 false) (fun _ => val_F (val_neq rfl rfl) (fun h => h rfl)) ?_
        refine yOf 148 144 147 ?_
        refine yM 149 148 ?_
        refine yMg 150 25 8 false ?_
        refine yMg 151 28 8 false ?_
        refine cS (kg 152 (.call { callee := .value (.func 21), args := #[(.tmp 150), (.tmp 151)], argTypes := #[24, 24] }) 8 false) rfl rfl (ent Try.call21 rfl) (same_ok hF hc1 hc2) ?_
        rintro vw33 w33 ⟨rfl, hs⟩
        rw [decide_eq_true (rfl : solL y.a y.b xs = solL y.a y.b xs)]
        refine ⟨trivial, ?_⟩
        replace hF := hF.st hs
        replace hT := hT.t hs; replace hX := hX.t hs; replace hc := hc.t hs; replace hu := hu.t hs; replace hv := hv.t hs; replace g89 := g89.t hs; replace hY := hY.t hs; replace hy := hy.t hs; replace hc1 := hc1.t hs; replace hc2 := hc2.t hs
        refine yV (kg 153 (.unOp .not 4 (.tmp 152)) 8 false) (fun _ => val_not rfl) ?_
        refine yOf 154 149 153 ?_
        refine Sch.nil ?_
        refine run_cF 154 ?_
        refine run_sk ?_
        refine run_sq ?_
        refine run_sq ?_
        refine run_draw (id := 20) (ops := F3.o20) [] (Cw26) [yy 0, yy 1, yy 2, yy 3, yy 4, yy 5, yy 6, yy 7, yy 9, yy 10, yy 11, yy 12, yy 13, yy 14, yy 15, yy 16, nn 8, nn 17, yy 18] Try_mixed (by kernel_rfl) (by kernel_rfl) (by kernel_rfl) ?_
        intro w34 hs
        replace hF := hF.st hs
        replace hT := hT.t hs; replace hX := hX.t hs; replace hc := hc.t hs; replace hu := hu.t hs; replace hv := hv.t hs; replace g89 := g89.t hs; replace hY := hY.t hs; replace hy := hy.t hs; replace hc1 := hc1.t hs; replace hc2 := hc2.t hs
        have hR := Stp.refl [] w34 (Cw26)
        refine yV (kq 155 (.indexAddr 33 (.tmp 24) (.const (.int .i64 0)))) (fun _ => val_indexArr (n := 1) (o' := 0) Try.underlying33 (by kernel_rfl) rfl rfl (by decide) (by decide) rfl) ?_
        refine yS (kq 156 (.load 3 (.tmp 155))) rfl rfl (fun w' hS => val_loadOwn (hy.sy hS) (by kernel_rfl) rfl rfl) ?_
        refine yV (kq 157 (.indexAddr 33 (.tmp 24) (.const (.int .i64 1)))) (fun _ => val_indexArr (n := 1) (o' := 1) Try.underlying33 (by kernel_rfl) rfl rfl (by decide) (by decide) rfl) ?_
        refine yS (kq 158 (.load 3 (.tmp 157))) rfl rfl (fun w' hS => val_loadOwn (hy.sy hS) (by kernel_rfl) rfl rfl) ?_
        refine yM 159 22 ?_
        refine yM 160 4 ?_
        refine yM 161 5 ?_
        refine yM 162 6 ?_
        refine yV (kq 164 (.indexAddr 33 (.tmp 24) (.const (.int .i64 0)))) (fun _ => val_indexArr (n := 1) (o' := 0) Try.underlying33 (by kernel_rfl) rfl rfl (by decide) (by decide) rfl) ?_
        refine yS (kq 165 (.load 3 (.tmp 164))) rfl rfl (fun w' hS => val_loadOwn (hy.sy hS) (by kernel_rfl) rfl rfl) ?_
        refine yV (kq 166 (.indexAddr 33 (.tmp 24) (.const (.int .i64 1)))) (fun _ => val_indexArr (n := 1) (o' := 1) Try.underlying33 (by kernel_rfl) rfl rfl (by decide) (by decide) rfl) ?_
        refine yS (kq 167 (.load 3 (.tmp 166))) rfl rfl (fun w' hS => val_loadOwn (hy.sy hS) (by kernel_rfl) rfl rfl) ?_
        refine yM 168 22 ?_
        refine yM 169 4 ?_
        refine yM 170 5 ?_
        refine yM 171 6 ?_
        refine cS (kq 163 (.call { callee := .value (.func 22), args := #[(.tmp 156), (.tmp 158), (.tmp 159), (.tmp 160), (.tmp 161), (.tmp 162)], argTypes := #[3, 3, 23, 24, 22, 22] })) rfl rfl (ent Try.call22 rfl) (proves_ok hF g89 hc hu hv (by omega)) ?_
        rintro vw35 w35 ⟨rfl, hs⟩
        refine ⟨(hR.trans hs (by simp)).ext, ?_⟩
        replace hF := hF.st hs
        replace hT := hT.t hs; replace hX := hX.t hs; replace hc := hc.t hs; replace hu := hu.t hs; replace hv := hv.t hs; replace g89 := g89.t hs; replace hY := hY.t hs; replace hy := hy.t hs; replace hc1 := hc1.t hs; replace hc2 := hc2.t hs; replace hR := hR.t hs
        refine cS (kq 172 (.call { callee := .value (.func 23), args := #[(.tmp 165), (.tmp 167), (.tmp 168), (.tmp 169), (.tmp 170), (.tmp 171)], argTypes := #[3, 3, 23, 24, 22, 22] })) rfl rfl (ent Try.call23 rfl) (rproves_ok hF g89 hc hu hv) ?_
        rintro vw36 w36 ⟨rfl, hs⟩
        refine ⟨(hR.trans hs (by simp)).ext, ?_⟩
        replace hF := hF.st hs
        replace hT := hT.t hs; replace hX := hX.t hs; replace hc := hc.t hs; replace hu := hu.t hs; replace hv := hv.t hs; replace g89 := g89.t hs; replace hY := hY.t hs; replace hy := hy.t hs; replace hc1 := hc1.t hs; replace hc2 := hc2.t hs; replace hR := hR.t hs
        refine yV (kq 173 (.binOp .neq 4 (.tmp 163) (.tmp 172) 4)) (fun _ => val_is (val_neqB Try.underlying4 rfl rfl) (show _ = Value.bool false from congrArg Value.bool (decide_eq_false (fun h => h rfl)))) ?_
        refine Sch.nil ?_
        refine run_cF 173 ?_
        refine run_sk ?_
        refine run_sq ?_
        refine run_pl [yy 0, nn 1, yy 2, nn 3, yy 4, nn 5, yy 6, yy 7, yy 8, yy 9, yy 10, yy 11, yy 12] ?_
        refine yV (kq 175 (.indexAddr 33 (.tmp 24) (.const (.int .i64 0)))) (fun _ => val_indexArr (n := 1) (o' := 0) Try.underlying33 (by kernel_rfl) rfl rfl (by decide) (by decide) rfl) ?_
        refine nS (kq 176 (.load 3 (.tmp 175))) rfl rfl trivial (val_loadOwn hy.at_ (by kernel_rfl) rfl rfl) ?_
        refine yV (kq 177 (.indexAddr 33 (.tmp 24) (.const (.int .i64 1)))) (fun _ => val_indexArr (n := 1) (o' := 1) Try.underlying33 (by kernel_rfl) rfl rfl (by decide) (by decide) rfl) ?_
        refine nS (kq 178 (.load 3 (.tmp 177))) rfl rfl trivial (val_loadOwn hy.at_ (by kernel_rfl) rfl rfl) ?_
        refine yM 179 22 ?_
        refine cS (kq 180 (.call { callee := .value (.func 24), args := #[(.tmp 176), (.tmp 178), (.tmp 179)], argTypes := #[3, 3, 23] })) rfl rfl (ent Try.call24 rfl) (prices_ok hF g89) ?_
        rintro vw37 w37 ⟨pa, pb, Ua, Vb, rfl, hs, _, _, _⟩
        refine ⟨trivial, ?_⟩
        replace hF := hF.st hs
        replace hT := hT.t hs; replace hX := hX.t hs; replace hc := hc.t hs; replace hu := hu.t hs; replace hv := hv.t hs; replace g89 := g89.t hs; replace hY := hY.t hs; replace hy := hy.t hs; replace hc1 := hc1.t hs; replace hc2 := hc2.t hs
        refine yM 174 180 ?_
        refine yV (kq 181 (.extract (.tmp 174) 0)) (fun _ => val_extract rfl rfl) ?_
        refine yV (kq 182 (.extract (.tmp 174) 1)) (fun _ => val_extract rfl rfl) ?_
        refine yV (kq 183 (.extract (.tmp 174) 2)) (fun _ => val_extract rfl rfl) ?_
        refine yA 31 181 ?_
        refine yA 32 182 ?_
        refine yA 33 183 ?_
        refine Sch.nil ?_
        refine run_sq ?_
        refine run_sq ?_
        refine run_pl [yy 0, yy 1, yy 2] ?_
        refine yM 184 33 ?_
        refine yM 185 30 ?_
        refine yV (kq 186 (.binOp .neq 35 (.tmp 184) (.tmp 185) 35)) (fun _ => val_F (val_neq rfl rfl) (fun h => h rfl)) ?_
        refine Sch.nil ?_
        refine run_cF 186 ?_
        refine run_sk ?_
        refine run_sq ?_
        refine run_pl [yy 0, nn 1, yy 2, nn 3, yy 4, nn 5, yy 6, yy 7, yy 8, yy 9, yy 10, yy 11, yy 12] ?_
        refine yV (kq 188 (.indexAddr 33 (.tmp 24) (.const (.int .i64 0)))) (fun _ => val_indexArr (n := 1) (o' := 0) Try.underlying33 (by kernel_rfl) rfl rfl (by decide) (by decide) rfl) ?_
        refine nS (kq 189 (.load 3 (.tmp 188))) rfl rfl trivial (val_loadOwn hy.at_ (by kernel_rfl) rfl rfl) ?_
        refine yV (kq 190 (.indexAddr 33 (.tmp 24) (.const (.int .i64 1)))) (fun _ => val_indexArr (n := 1) (o' := 1) Try.underlying33 (by kernel_rfl) rfl rfl (by decide) (by decide) rfl) ?_
        refine nS (kq 191 (.load 3 (.tmp 190))) rfl rfl trivial (val_loadOwn hy.at_ (by kernel_rfl) rfl rfl) ?_
        refine yM 192 22 ?_
        refine cS (kq 193 (.call { callee := .value (.func 25), args := #[(.tmp 189), (.tmp 191), (.tmp 192)], argTypes := #[3, 3, 23] })) rfl rfl (ent Try.call25 rfl) (rprices_ok hF g89) ?_
        rintro vw38 w38 ⟨pe, pf, Ue, Vf, rfl, hs, hp1, hp2⟩
        refine ⟨trivial, ?_⟩
        replace hF := hF.st hs
        replace hT := hT.t hs; replace hX := hX.t hs; replace hc := hc.t hs; replace hu := hu.t hs; replace hv := hv.t hs; replace g89 := g89.t hs; replace hY := hY.t hs; replace hy := hy.t hs; replace hc1 := hc1.t hs; replace hc2 := hc2.t hs
        refine yM 187 193 ?_
        refine yV (kq 194 (.extract (.tmp 187) 0)) (fun _ => val_extract rfl rfl) ?_
        refine yV (kq 195 (.extract (.tmp 187) 1)) (fun _ => val_extract rfl rfl) ?_
        refine yV (kq 196 (.extract (.tmp 187) 2)) (fun _ => val_extract rfl rfl) ?_
        refine yA 34 194 ?_
        refine yA 35 195 ?_
        refine yA 36 196 ?_
        refine Sch.nil ?_
        refine run_sq ?_
        refine run_pl [yy 0, yy 1, nn 2, yy 3, yy 4] ?_
        refine yM 197 28 ?_
        refine yM 198 4 ?_
        refine aS (kq 199 (.buildSlice 43 2 #[(0, (.tmp 197)), (1, (.tmp 198))])) rfl rfl (a_buildSlice (ys := ([solL y.a y.b xs, cs] : List (List Couple))) (e := 24) (bytes := 24) hF (by kernel_rfl) rfl (by decide) (by decide) ⟨rfl, ⟨_, rfl, hc2⟩, rfl, ⟨_, rfl, hc⟩, trivial⟩) ?_
        rintro v199 w39 ⟨hs, hZ, hF⟩
        refine ⟨trivial, ?_⟩
        replace hT := hT.t hs; replace hX := hX.t hs; replace hc := hc.t hs; replace hu := hu.t hs; replace hv := hv.t hs; replace g89 := g89.t hs; replace hY := hY.t hs; replace hy := hy.t hs; replace hc1 := hc1.t hs; replace hc2 := hc2.t hs; replace hp1 := hp1.t hs; replace hp2 := hp2.t hs
        obtain ⟨zl, hzl⟩ : ∃ x : List (List Couple), x = [solL y.a y.b xs, cs] := ⟨_, rfl⟩
        rw [← hzl] at hZ
        have hz2 : zl.length = 2 := by rw [hzl]; rfl
        have hzb : ∀ z ∈ zl, z.length ≤ 1000000 := by
          intro z hz
          rw [hzl] at hz
          simp only [List.mem_cons, List.not_mem_nil, or_false] at hz
          rcases hz with rfl | rfl
          · have := solL_len (n := y.a) (m := y.b) (l := xs); omega
          · omega
        refine yS (kq 200 (.call { callee := .builtin .len, args := #[(.tmp 199)], argTypes := #[43] })) rfl rfl (fun w' hS => hZ.lenV rfl Try.underlying43 w' ) ?_
        refine yV (kq 201 (.move (.const (.int .i64 0)))) (fun _ => val_move rfl) ?_
        refine Sch.nil ?_
        refine run_bk 4 ?_
        
        refine run_lp (ι := Nat × (Nat → Nat)) (I := fun x w => x.1 ≤ zl.length ∧ Lim w x.2 ∧ Stp [2, 3, 4, 5, 6, 7, 8, 9] w₀ (col1 C) w x.2 ∧ RV w (Mc x.2) xl v84 ∧ RV w (Mc x.2) cs pc ∧ RV w (Mc x.2) ul pu ∧ RV w (Mc x.2) vl pv ∧ RV w (Mc x.2) xs v89 ∧ RV w (Mc x.2) yl v102 ∧ OwnB w x.2 4 bw26 (.cells [.int .i64 y.a, .int .i64 y.b].toArray 33) ∧ RV w (Mc x.2) Ue pe ∧ RV w (Mc x.2) Vf pf ∧ RV w (Mc x.2) zl v199) (e := fun x => [(2, .int .i64 n), (3, .int .i64 m), (4, pc), (5, pu), (6, pv), (16, .int .i64 p), (17, .int .i64 q), (20, .func (.func 16) #[] #[]), (22, v89), (24, .pointer (some ⟨bw26, 0, none⟩)), (34, pe), (35, pf), (84, v84), (85, .int .i64 xl.length), (86, .int .i64 k), (102, v102), (103, .int .i64 yl.length), (104, .int .i64 j), (199, v199), (200, .int .i64 zl.length), (201, .int .i64 x.1)]) (m := fun x => zl.length - x.1) (x₀ := (0, Cw26)) (sr 2 (sr 3 (sr 4 (sr 5 (sr 6 (sr 16 (sr 17 (sr 20 (sr 22 (sr 24 (sr 34 (sr 35 (sr 84 (sr 85 (sr 86 (sr 102 (sr 103 (sr 104 (sr 199 (sr 200 (sr 201 (sub_nil _)))))))))))))))))))))) ?_ ?_
        · exact ⟨Nat.zero_le _, hF, hT, hX, hc, hu, hv, g89, hY, hy, hp1, hp2, hZ⟩
        intro ⟨i, C3⟩ w40 hI next
        obtain ⟨hi, hF, hT, hX, hc, hu, hv, g89, hY, hy, hp1, hp2, hZ⟩ := hI
        try simp only at hi hF hT hX hc hu hv g89 hY hy hp1 hp2 hZ
        have next3 := next
        clear next
        show Run _ _ _ _ [(2, .int .i64 n), (3, .int .i64 m), (4, pc), (5, pu), (6, pv), (16, .int .i64 p), (17, .int .i64 q), (20, .func (.func 16) #[] #[]), (22, v89), (24, .pointer (some ⟨bw26, 0, none⟩)), (34, pe), (35, pf), (84, v84), (85, .int .i64 xl.length), (86, .int .i64 k), (102, v102), (103, .int .i64 yl.length), (104, .int .i64 j), (199, v199), (200, .int .i64 zl.length), (201, .int .i64 i)] _ _
        refine run_sq ?_
        refine run_pl [yy 0] ?_
        refine yV (kq 202 (.binOp .lss 3 (.tmp 201) (.tmp 200) 3)) (fun _ => val_lss rfl rfl) ?_
        refine Sch.nil ?_
        refine run_sq ?_
        refine run_i 202 rfl (fun h202 => ?_) (fun h202 => ?_)
        ·
         have hil : i < zl.length := by omega
         have hzi := hzb _ (List.getElem_mem hil)
         refine run_sk ?_
         refine run_sq ?_
         refine run_bk 5 ?_
         refine run_sq ?_
         refine run_pl [yy 0, nn 1, yy 2] ?_
         refine iS (e := 24) (kq 203 (.indexAddr 43 (.tmp 199) (.tmp 201))) rfl rfl hZ rfl (by kernel_rfl) rfl (by omega) (by omega) ?_
         intro b203 o203 h203
         try simp only [Int.toNat_natCast] at h203
         refine lN (kq 204 (.load 24 (.tmp 203))) rfl rfl trivial h203 (by kernel_rfl) rfl rfl ?_
         intro v204 g204
         refine yA 38 204 ?_
         refine Sch.nil ?_
         refine run_sq ?_
         refine run_draw (id := 29) (ops := F3.o29) [] (C3) [yy 0, yy 1, yy 2, yy 3, yy 4, yy 5, yy 6, yy 7, yy 9, yy 10, yy 11, yy 12, yy 13, yy 14, yy 15, yy 16, nn 8, nn 17, yy 18] Try_mixed (by kernel_rfl) (by kernel_rfl) (by kernel_rfl) ?_
         intro w41 hs
         replace hF := hF.st hs
         replace hT := hT.t hs; replace hX := hX.t hs; replace hc := hc.t hs; replace hu := hu.t hs; replace hv := hv.t hs; replace g89 := g89.t hs; replace hY := hY.t hs; replace hy := hy.t hs; replace hp1 := hp1.t hs; replace hp2 := hp2.t hs; replace hZ := hZ.t hs; replace h203 := h203.t hs; replace g204 := g204.t hs
         have hR := Stp.refl [] w41 (C3)
         refine yV (kq 205 (.indexAddr 33 (.tmp 24) (.const (.int .i64 0)))) (fun _ => val_indexArr (n := 1) (o' := 0) Try.underlying33 (by kernel_rfl) rfl rfl (by decide) (by decide) rfl) ?_
         refine yS (kq 206 (.load 3 (.tmp 205))) rfl rfl (fun w' hS => val_loadOwn (hy.sy hS) (by kernel_rfl) rfl rfl) ?_
         refine yV (kq 207 (.indexAddr 33 (.tmp 24) (.const (.int .i64 1)))) (fun _ => val_indexArr (n := 1) (o' := 1) Try.underlying33 (by kernel_rfl) rfl rfl (by decide) (by decide) rfl) ?_
         refine yS (kq 208 (.load 3 (.tmp 207))) rfl rfl (fun w' hS => val_loadOwn (hy.sy hS) (by kernel_rfl) rfl rfl) ?_
         refine yM 209 22 ?_
         refine yM 210 38 ?_
         refine yM 211 34 ?_
         refine yM 212 35 ?_
         refine yV (kq 214 (.indexAddr 33 (.tmp 24) (.const (.int .i64 0)))) (fun _ => val_indexArr (n := 1) (o' := 0) Try.underlying33 (by kernel_rfl) rfl rfl (by decide) (by decide) rfl) ?_
         refine yS (kq 215 (.load 3 (.tmp 214))) rfl rfl (fun w' hS => val_loadOwn (hy.sy hS) (by kernel_rfl) rfl rfl) ?_
         refine yV (kq 216 (.indexAddr 33 (.tmp 24) (.const (.int .i64 1)))) (fun _ => val_indexArr (n := 1) (o' := 1) Try.underlying33 (by kernel_rfl) rfl rfl (by decide) (by decide) rfl) ?_
         refine yS (kq 217 (.load 3 (.tmp 216))) rfl rfl (fun w' hS => val_loadOwn (hy.sy hS) (by kernel_rfl) rfl rfl) ?_
         refine yM 218 22 ?_
         refine yM 219 38 ?_
         refine yM 220 34 ?_
         refine yM 221 35 ?_
         refine cS (kq 213 (.call { callee := .value (.func 22), args := #[(.tmp 206), (.tmp 208), (.tmp 209), (.tmp 210), (.tmp 211), (.tmp 212)], argTypes := #[3, 3, 23, 24, 22, 22] })) rfl rfl (ent Try.call22 rfl) (proves_ok hF g89 g204 hp1 hp2 hzi) ?_
         rintro vw42 w42 ⟨rfl, hs⟩
         refine ⟨(hR.trans hs (by simp)).ext, ?_⟩
         replace hF := hF.st hs
         replace hT := hT.t hs; replace hX := hX.t hs; replace hc := hc.t hs; replace hu := hu.t hs; replace hv := hv.t hs; replace g89 := g89.t hs; replace hY := hY.t hs; replace hy := hy.t hs; replace hp1 := hp1.t hs; replace hp2 := hp2.t hs; replace hZ := hZ.t hs; replace h203 := h203.t hs; replace g204 := g204.t hs; replace hR := hR.t hs
         refine cS (kq 222 (.call { callee := .value (.func 23), args := #[(.tmp 215), (.tmp 217), (.tmp 218), (.tmp 219), (.tmp 220), (.tmp 221)], argTypes := #[3, 3, 23, 24, 22, 22] })) rfl rfl (ent Try.call23 rfl) (rproves_ok hF g89 g204 hp1 hp2) ?_
         rintro vw43 w43 ⟨rfl, hs⟩
         refine ⟨(hR.trans hs (by simp)).ext, ?_⟩
         replace hF := hF.st hs
         replace hT := hT.t hs; replace hX := hX.t hs; replace hc := hc.t hs; replace hu := hu.t hs; replace hv := hv.t hs; replace g89 := g89.t hs; replace hY := hY.t hs; replace hy := hy.t hs; replace hp1 := hp1.t hs; replace hp2 := hp2.t hs; replace hZ := hZ.t hs; replace h203 := h203.t hs; replace g204 := g204.t hs; replace hR := hR.t hs
         refine yV (kq 223 (.binOp .neq 4 (.tmp 213) (.tmp 222) 4)) (fun _ => val_is (val_neqB Try.underlying4 rfl rfl) (show _ = Value.bool false from congrArg Value.bool (decide_eq_false (fun h => h rfl)))) ?_
         refine Sch.nil ?_
         refine run_cF 223 ?_
         refine run_sk ?_
         refine run_inBlock ?_
         refine run_pl [yy 0, yy 1] ?_
         refine yV (kq 224 (.binOp .add 3 (.tmp 201) (.const (.int .i64 1)) 3)) (fun _ => val_addi rfl rfl (by omega) (by omega)) ?_
         refine yM 201 224 ?_
         refine Sch.nil ?_
         refine kp (sub_cons 2 rfl rfl (sub_cons 3 rfl rfl (sub_cons 4 rfl rfl (sub_cons 5 rfl rfl (sub_cons 6 rfl rfl (sub_cons 16 rfl rfl (sub_cons 17 rfl rfl (sub_cons 20 rfl rfl (sub_cons 22 rfl rfl (sub_cons 24 rfl rfl (sub_cons 34 rfl rfl (sub_cons 35 rfl rfl (sub_cons 84 rfl rfl (sub_cons 85 rfl rfl (sub_cons 86 rfl rfl (sub_cons 102 rfl rfl (sub_cons 103 rfl rfl (sub_cons 104 rfl rfl (sub_cons 199 rfl rfl (sub_cons 200 rfl rfl (sub_cons 201 rfl (eq_int (by simp)) (sub_nil _)))))))))))))))))))))) (next3 (i + 1, C3) _ ⟨(by first | omega | (simp only; omega)), hF, hT, hX, hc, hu, hv, g89, hY, hy, hp1, hp2, hZ⟩ (by first | omega | (simp only; omega)))
        ·
         refine run_ex 4 ?_
         refine run_inBlock ?_
         refine run_pl [yy 0, yy 1] ?_
         refine yV (kq 225 (.binOp .add 3 (.tmp 104) (.const (.int .i64 1)) 3)) (fun _ => val_addi rfl rfl (by omega) (by omega)) ?_
         refine yM 104 225 ?_
         refine Sch.nil ?_
         refine kp (sub_cons 2 rfl rfl (sub_cons 3 rfl rfl (sub_cons 4 rfl rfl (sub_cons 5 rfl rfl (sub_cons 6 rfl rfl (sub_cons 16 rfl rfl (sub_cons 17 rfl rfl (sub_cons 20 rfl rfl (sub_cons 22 rfl rfl (sub_cons 84 rfl rfl (sub_cons 85 rfl rfl (sub_cons 86 rfl rfl (sub_cons 102 rfl rfl (sub_cons 103 rfl rfl (sub_cons 104 rfl (eq_int (by simp)) (sub_nil _)))))))))))))))) (next2 (j + 1, C3) _ ⟨(by first | omega | (simp only; omega)), hF, hT, hX, hc, hu, hv, g89, hY⟩ (by first | omega | (simp only; omega)))
       ·
        refine run_ex 2 ?_
        refine run_inBlock ?_
        refine run_pl [yy 0, yy 1] ?_
        refine yV (kq 226 (.binOp .add 3 (.tmp 86) (.const (.int .i64 1)) 3)) (fun _ => val_addi rfl rfl (by omega) (by omega)) ?_
        refine yM 86 226 ?_
        refine Sch.nil ?_
        refine kp (sub_cons 2 rfl rfl (sub_cons 3 rfl rfl (sub_cons 4 rfl rfl (sub_cons 5 rfl rfl (sub_cons 6 rfl rfl (sub_cons 16 rfl rfl (sub_cons 17 rfl rfl (sub_cons 20 rfl rfl (sub_cons 84 rfl rfl (sub_cons 85 rfl rfl (sub_cons 86 rfl (eq_int (by simp)) (sub_nil _)))))))))))) (next1 (k + 1, C2) _ ⟨(by first | omega | (simp only; omega)), hF, hT, hX, hc, hu, hv⟩ (by first | omega | (simp only; omega)))
      ·
       refine run_ex 0 ?_
       refine run_sq ?_
       refine run_pl [yy 0] ?_
       refine yAc 14 (.bool true) ?_
       refine Sch.nil ?_
       refine run_ret1 (by kernel_rfl) Try.func3 Try.results3 rfl ?_
       exact ⟨rfl, hT.out1 (by decide)⟩
 ·
  refine run_pl [nn 0, yy 1, yy 2, yy 3, nn 4, yy 5, yy 6, yy 7, yy 8, yy 9, yy 10, yy 11, yy 12, yy 13, yy 14, yy 15, yy 16, yy 17, yy 18, yy 19, yy 20, yy 21, yy 22, yy 23, yy 24, yy 25, yy 26] ?_
  refine cS (kq 39 (.call { callee := .value (.func 10), args := #[], argTypes := #[] })) rfl rfl (ent Try.call10 rfl) (awake_ok hF) ?_
  rintro vw44 w44 ⟨rfl, hs⟩
  refine ⟨trivial, ?_⟩
  replace hF := hF.st hs
  replace hT := hT.t hs; replace hl := hl.t hs; replace hraw := hraw.t hs; replace hc := hc.t hs; replace hu := hu.t hs; replace hv := hv.t hs
  refine yV (kq 40 (.unOp .not 4 (.tmp 39))) (fun _ => val_not rfl) ?_
  refine yM 41 40 ?_
  refine yMg 42 0 2 false ?_
  refine cS (kg 43 (.call { callee := .value (.func 11), args := #[(.tmp 42)], argTypes := #[22] }) 2 false) rfl rfl (ent Try.call11 rfl) (few_any hl) ?_
  rintro vw45 w45 ⟨rfl, rfl⟩
  rw [decide_eq_false (hA)]
  refine ⟨trivial, ?_⟩
  refine yV (kg 44 (.unOp .not 4 (.tmp 43)) 2 false) (fun _ => val_not rfl) ?_
  refine yOf 45 41 44 ?_
  refine yM 46 45 ?_
  refine pX 47 7 false ?_
  refine pX 48 7 false ?_
  refine pX 49 7 false ?_
  refine yOt 50 46 49 ?_
  refine yM 51 50 ?_
  refine pX 52 12 false ?_
  refine pX 53 12 false ?_
  refine pX 54 12 false ?_
  refine yOt 55 51 54 ?_
  refine yM 56 55 ?_
  refine pX 57 17 false ?_
  refine pX 58 17 false ?_
  refine pX 59 17 false ?_
  refine yOt 60 56 59 ?_
  refine yM 61 60 ?_
  refine pX 62 22 false ?_
  refine pX 63 22 false ?_
  refine pX 64 22 false ?_
  refine yOt 65 61 64 ?_
  refine Sch.nil ?_
  refine run_cT 65 ?_
  refine run_sq ?_
  refine run_pl [nn 0, yy 1] ?_
  refine cS (kq 66 (.call { callee := .value (.func 10), args := #[], argTypes := #[] })) rfl rfl (ent Try.call10 rfl) (awake_ok hF) ?_
  rintro vw46 w46 ⟨rfl, hs⟩
  refine ⟨trivial, ?_⟩
  replace hF := hF.st hs
  replace hT := hT.t hs; replace hl := hl.t hs; replace hraw := hraw.t hs; replace hc := hc.t hs; replace hu := hu.t hs; replace hv := hv.t hs
  refine yA 14 66 ?_
  refine Sch.nil ?_
  refine run_ret1 (by kernel_rfl) Try.func3 Try.results3 rfl ?_
  exact ⟨rfl, hT.out1 (by decide)⟩
end Go.Proofs.Ytgooehopkmbkfaa
