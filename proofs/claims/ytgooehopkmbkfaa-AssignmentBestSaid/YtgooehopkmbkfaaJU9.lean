/- Steps through functions of the program. -/
import Derived.Test.YtgooehopkmbkfaaJU8
set_option linter.unusedVariables false
set_option linter.unusedSimpArgs false
set_option maxRecDepth 100000
set_option maxHeartbeats 4000000
namespace Go.Proofs.Ytgooehopkmbkfaa
open Go.K Go.K.Rep

namespace F22
noncomputable def c0 : Code := bodyOf Try.f22
noncomputable def c1 : Code := cl c0
noncomputable def o0 : Array Oper := rops c1
noncomputable def c2 : Code := cr c0
noncomputable def c3 : Code := cl c2
noncomputable def c4 : Code := cl c3
noncomputable def o1 : Array Oper := rops c4
noncomputable def c5 : Code := cr c3
noncomputable def c6 : Code := cl c5
noncomputable def c7 : Code := cl c6
noncomputable def o2 : Array Oper := rops c7
noncomputable def c8 : Code := cr c6
noncomputable def c9 : Code := cr c5
noncomputable def c10 : Code := cr c2
noncomputable def c11 : Code := cl c10
noncomputable def o3 : Array Oper := rops c11
noncomputable def c12 : Code := cr c10
noncomputable def c13 : Code := cl c12
noncomputable def o4 : Array Oper := rops c13
noncomputable def c14 : Code := cr c12
noncomputable def c15 : Code := cl c14
noncomputable def o5 : Array Oper := rops c15
noncomputable def c16 : Code := cr c14
end F22
/-- 'Proves'. -/
theorem proves_ok {w₀ : World} {C : Nat → Nat} {n m : Int} {l : List K.Edge} {cs : List Couple} {ul vl : List Int} {pl pc pu pv : Value} (hF : Lim w₀ C) (hl : RV w₀ (Mc C) l pl) (hc : RV w₀ (Mc C) cs pc) (hu : RV w₀ (Mc C) ul pu) (hv : RV w₀ (Mc C) vl pv) (hcl : cs.length ≤ 1000000) :
    Calls Try.prog 22 #[.int .i64 n, .int .i64 m, pl, pc, pu, pv] w₀ (Ret fun v w' => v = .bool (pvB n m l cs ul vl) ∧ Stp [] w₀ C w' C) := by
  have hF0 := hF
  have hT := Stp.refl [2, 3, 4, 5, 6, 7, 8, 9] w₀ (col1 C)
  replace hF := hF.col1
  replace hl : RV w₀ (Mc (col1 C)) l pl := by rw [Mc_col1]; exact hl
  replace hc : RV w₀ (Mc (col1 C)) cs pc := by rw [Mc_col1]; exact hc
  replace hu : RV w₀ (Mc (col1 C)) ul pu := by rw [Mc_col1]; exact hu
  replace hv : RV w₀ (Mc (col1 C)) vl pv := by rw [Mc_col1]; exact hv
  refine calls_start (c := F22.c0) (N := 46) [.int .i64 n, .int .i64 m, pl, pc, pu, pv] Try.func22 (by kernel_rfl) (by kernel_rfl) (by kernel_rfl) ?_
  show Run _ _ _ _ [(0, .int .i64 n), (1, .int .i64 m), (2, pl), (3, pc), (4, pu), (5, pv)] _ _
  refine run_seq (x := F22.c1) (y := F22.c2) (by kernel_rfl) ?_
  refine run_plain (id := 0) (ops := F22.o0) [(0, true)] (by kernel_rfl) (by kernel_rfl) ?_
  refine yS (by kernel_rfl : opAt F22.o0 0 = some (some 12, .assign (.const (.bool false)), none)) rfl rfl (fun w' hS => val_assign rfl) ?_
  refine Sch.nil ?_
  refine kp (sub_cons 0 rfl rfl (sub_cons 1 rfl rfl (sub_cons 2 rfl rfl (sub_cons 3 rfl rfl (sub_cons 4 rfl rfl (sub_cons 5 rfl rfl (sub_nil _))))))) ?_
  refine run_seq (x := F22.c3) (y := F22.c10) (by kernel_rfl) ?_
  refine run_seq (x := F22.c4) (y := F22.c5) (by kernel_rfl) ?_
  refine run_plain (id := 1) (ops := F22.o1) [(0, true), (1, true), (2, true), (3, false), (4, true)] (by kernel_rfl) (by kernel_rfl) ?_
  refine yS (by kernel_rfl : opAt F22.o1 0 = some (some 17, .move (.tmp 0), none)) rfl rfl (fun w' hS => val_move rfl) ?_
  refine yS (by kernel_rfl : opAt F22.o1 1 = some (some 18, .move (.tmp 1), none)) rfl rfl (fun w' hS => val_move rfl) ?_
  refine yS (by kernel_rfl : opAt F22.o1 2 = some (some 19, .move (.tmp 2), none)) rfl rfl (fun w' hS => val_move rfl) ?_
  refine cS (by kernel_rfl : opAt F22.o1 3 = some (some 20, .call { callee := .value (.func 17), args := #[(.tmp 17), (.tmp 18), (.tmp 19)], argTypes := #[3, 3, 23] }, none)) rfl rfl (ent Try.call17 rfl) (echeck_ok (n := n) (m := m) hF hl) ?_
  rintro vw1 w1 ⟨rfl, hs⟩
  refine ⟨trivial, ?_⟩
  replace hF := hF.st hs
  replace hT := hT.trans hs (by simp)
  replace hl := hl.st hs (by first | decide | (simp <;> omega))
  replace hc := hc.st hs (by first | decide | (simp <;> omega))
  replace hu := hu.st hs (by first | decide | (simp <;> omega))
  replace hv := hv.st hs (by first | decide | (simp <;> omega))
  refine yS (by kernel_rfl : opAt F22.o1 4 = some (some 21, .binOp .neq 35 (.tmp 20) (.const (.int .i64 0)) 35, none)) rfl rfl (fun w' hS => val_neq rfl rfl) ?_
  refine Sch.nil ?_
  refine run_if (x := F22.c6) (y := F22.c9) (o := .tmp 21) (by kernel_rfl) rfl (fun h21 => ?_) (fun h21 => ?_)
  · skip
    refine run_seq (x := F22.c7) (y := F22.c8) (by kernel_rfl) ?_
    refine run_plain (id := 2) (ops := F22.o2) [(0, true)] (by kernel_rfl) (by kernel_rfl) ?_
    refine yS (by kernel_rfl : opAt F22.o2 0 = some (some 12, .assign (.const (.bool false)), none)) rfl rfl (fun w' hS => val_assign rfl) ?_
    refine Sch.nil ?_
    refine run_ret1 (by kernel_rfl) Try.func22 Try.results22 rfl ?_
    exact ⟨by
      have hf : pvB n m l cs ul vl = false := Bool.eq_false_iff.2 (fun e => h21 (pvB_iff.1 e).1)
      rw [hf], hT.out1 (by decide)⟩
  · skip
    have hck : chkE n m l = 0 := Classical.not_not.1 h21
    have hV := chkE_zero hck
    refine run_skip (by kernel_rfl) ?_
    refine run_seq (x := F22.c11) (y := F22.c12) (by kernel_rfl) ?_
    refine run_plain (id := 3) (ops := F22.o3) [(0, true), (1, true), (2, true), (3, true), (4, true), (5, false), (6, true), (7, true), (8, true), (9, true), (10, true)] (by kernel_rfl) (by kernel_rfl) ?_
    refine yS (by kernel_rfl : opAt F22.o3 0 = some (some 23, .move (.tmp 0), none)) rfl rfl (fun w' hS => val_move rfl) ?_
    refine yS (by kernel_rfl : opAt F22.o3 1 = some (some 24, .move (.tmp 1), none)) rfl rfl (fun w' hS => val_move rfl) ?_
    refine yS (by kernel_rfl : opAt F22.o3 2 = some (some 25, .move (.tmp 2), none)) rfl rfl (fun w' hS => val_move rfl) ?_
    refine yS (by kernel_rfl : opAt F22.o3 3 = some (some 26, .move (.tmp 4), none)) rfl rfl (fun w' hS => val_move rfl) ?_
    refine yS (by kernel_rfl : opAt F22.o3 4 = some (some 27, .move (.tmp 5), none)) rfl rfl (fun w' hS => val_move rfl) ?_
    refine cS (by kernel_rfl : opAt F22.o3 5 = some (some 28, .call { callee := .value (.func 39), args := #[(.tmp 23), (.tmp 24), (.tmp 25), (.tmp 26), (.tmp 27)], argTypes := #[3, 3, 23, 22, 22] }, none)) rfl rfl (ent Try.call39 rfl) (priced_ok hF hV hl hu hv) ?_
    rintro vw2 w2 ⟨t1, b1, rfl, hs, hp1, hp2⟩
    refine ⟨trivial, ?_⟩
    replace hF := hF.st hs
    replace hT := hT.trans hs (by simp)
    replace hl := hl.st hs (by first | decide | (simp <;> omega))
    replace hc := hc.st hs (by first | decide | (simp <;> omega))
    replace hu := hu.st hs (by first | decide | (simp <;> omega))
    replace hv := hv.st hs (by first | decide | (simp <;> omega))
    refine yS (by kernel_rfl : opAt F22.o3 6 = some (some 22, .move (.tmp 28), none)) rfl rfl (fun w' hS => val_move rfl) ?_
    refine yS (by kernel_rfl : opAt F22.o3 7 = some (some 29, .extract (.tmp 22) 0, none)) rfl rfl (fun w' hS => val_extract rfl rfl) ?_
    refine yS (by kernel_rfl : opAt F22.o3 8 = some (some 30, .extract (.tmp 22) 1, none)) rfl rfl (fun w' hS => val_extract rfl rfl) ?_
    refine yS (by kernel_rfl : opAt F22.o3 9 = some (some 13, .assign (.tmp 29), none)) rfl rfl (fun w' hS => val_assign rfl) ?_
    refine yS (by kernel_rfl : opAt F22.o3 10 = some (some 14, .assign (.tmp 30), none)) rfl rfl (fun w' hS => val_assign rfl) ?_
    refine Sch.nil ?_
    refine run_seq (x := F22.c13) (y := F22.c14) (by kernel_rfl) ?_
    refine run_plain (id := 4) (ops := F22.o4) [(0, true), (1, true), (2, false), (3, true), (4, true), (5, true), (6, true), (7, true)] (by kernel_rfl) (by kernel_rfl) ?_
    refine yS (by kernel_rfl : opAt F22.o4 0 = some (some 32, .move (.tmp 2), none)) rfl rfl (fun w' hS => val_move rfl) ?_
    refine yS (by kernel_rfl : opAt F22.o4 1 = some (some 33, .move (.tmp 3), none)) rfl rfl (fun w' hS => val_move rfl) ?_
    refine cS (by kernel_rfl : opAt F22.o4 2 = some (some 34, .call { callee := .value (.func 40), args := #[(.tmp 32), (.tmp 33)], argTypes := #[23, 24] }, none)) rfl rfl (ent Try.call40 rfl) (chosen_ok hF hV hl hc hcl) ?_
    rintro vw3 w3 ⟨t2, b2, rfl, hs, hc1, hc2⟩
    refine ⟨trivial, ?_⟩
    replace hF := hF.st hs
    replace hT := hT.trans hs (by simp)
    replace hl := hl.st hs (by first | decide | (simp <;> omega))
    replace hc := hc.st hs (by first | decide | (simp <;> omega))
    replace hu := hu.st hs (by first | decide | (simp <;> omega))
    replace hv := hv.st hs (by first | decide | (simp <;> omega))
    refine yS (by kernel_rfl : opAt F22.o4 3 = some (some 31, .move (.tmp 34), none)) rfl rfl (fun w' hS => val_move rfl) ?_
    refine yS (by kernel_rfl : opAt F22.o4 4 = some (some 35, .extract (.tmp 31) 0, none)) rfl rfl (fun w' hS => val_extract rfl rfl) ?_
    refine yS (by kernel_rfl : opAt F22.o4 5 = some (some 36, .extract (.tmp 31) 1, none)) rfl rfl (fun w' hS => val_extract rfl rfl) ?_
    refine yS (by kernel_rfl : opAt F22.o4 6 = some (some 15, .assign (.tmp 35), none)) rfl rfl (fun w' hS => val_assign rfl) ?_
    refine yS (by kernel_rfl : opAt F22.o4 7 = some (some 16, .assign (.tmp 36), none)) rfl rfl (fun w' hS => val_assign rfl) ?_
    refine Sch.nil ?_
    refine run_seq (x := F22.c15) (y := F22.c16) (by kernel_rfl) ?_
    refine run_cut 12 (pvB n m l cs ul vl) (col1 C) ?_ ?_
    · intro hcut
      by_cases hA : b1 = true
      · skip
        by_cases hB : b2 = true
        · skip
          refine run_plain (id := 5) (ops := F22.o5) [(0, true), (1, true), (2, true), (3, true), (4, true), (5, true), (6, true), (7, true), (8, true), (9, true)] (by kernel_rfl) (by kernel_rfl) ?_
          refine yS (by kernel_rfl : opAt F22.o5 0 = some (some 37, .move (.tmp 14), none)) rfl rfl (fun w' hS => val_is (val_move rfl) (show _ = Value.bool true from congrArg Value.bool (hA))) ?_
          refine yS (by kernel_rfl : opAt F22.o5 1 = some (some 38, .move (.tmp 37), none)) rfl rfl (fun w' hS => val_move rfl) ?_
          refine yS (by kernel_rfl : opAt F22.o5 2 = some (some 39, .move (.tmp 16), (some (1, true)))) rfl rfl (fun w' hS => val_is (val_move rfl) (show _ = Value.bool true from congrArg Value.bool (hB))) ?_
          refine yS (by kernel_rfl : opAt F22.o5 3 = some (some 40, .pick (.tmp 38) (.tmp 39) (.const (.bool false)), none)) rfl rfl (fun w' hS => val_pick_t rfl rfl) ?_
          refine yS (by kernel_rfl : opAt F22.o5 4 = some (some 41, .move (.tmp 40), none)) rfl rfl (fun w' hS => val_move rfl) ?_
          refine yS (by kernel_rfl : opAt F22.o5 5 = some (some 42, .move (.tmp 13), (some (4, true)))) rfl rfl (fun w' hS => val_move rfl) ?_
          refine yS (by kernel_rfl : opAt F22.o5 6 = some (some 43, .move (.tmp 15), (some (4, true)))) rfl rfl (fun w' hS => val_move rfl) ?_
          refine yS (by kernel_rfl : opAt F22.o5 7 = some (some 44, .binOp .eql 3 (.tmp 42) (.tmp 43) 3, (some (4, true)))) rfl rfl (fun w' hS => val_eql rfl rfl) ?_
          refine yS (by kernel_rfl : opAt F22.o5 8 = some (some 45, .pick (.tmp 41) (.tmp 44) (.const (.bool false)), none)) rfl rfl (fun w' hS => val_pick_t rfl rfl) ?_
          refine yS (by kernel_rfl : opAt F22.o5 9 = some (some 12, .assign (.tmp 45), none)) rfl rfl (fun w' hS => val_assign rfl) ?_
          exact Sch.nil (hcut _ _ _ (Stp.refl _ _ _) rfl (by unfold pvB; congr 1; apply decide_eq_decide.2; simp only [hp2 hA, hc2 hB]; exact ⟨fun e => ⟨hck, hp1.1 hA, hc1.1 hB, e⟩, fun e => e.2.2.2⟩) (sub_skip rfl (sub_skip rfl (sub_skip rfl (sub_skip rfl (sub_skip rfl (sub_skip rfl (sub_skip rfl (sub_skip rfl (sub_skip rfl (sub_skip rfl (Sub.refl _))))))))))))
        · skip
          refine run_plain (id := 5) (ops := F22.o5) [(0, true), (1, true), (2, true), (3, true), (4, true), (5, true), (6, true), (7, true), (8, true), (9, true)] (by kernel_rfl) (by kernel_rfl) ?_
          refine yS (by kernel_rfl : opAt F22.o5 0 = some (some 37, .move (.tmp 14), none)) rfl rfl (fun w' hS => val_is (val_move rfl) (show _ = Value.bool true from congrArg Value.bool (hA))) ?_
          refine yS (by kernel_rfl : opAt F22.o5 1 = some (some 38, .move (.tmp 37), none)) rfl rfl (fun w' hS => val_move rfl) ?_
          refine yS (by kernel_rfl : opAt F22.o5 2 = some (some 39, .move (.tmp 16), (some (1, true)))) rfl rfl (fun w' hS => val_is (val_move rfl) (show _ = Value.bool false from congrArg Value.bool (Bool.eq_false_iff.2 hB))) ?_
          refine yS (by kernel_rfl : opAt F22.o5 3 = some (some 40, .pick (.tmp 38) (.tmp 39) (.const (.bool false)), none)) rfl rfl (fun w' hS => val_pick_t rfl rfl) ?_
          refine yS (by kernel_rfl : opAt F22.o5 4 = some (some 41, .move (.tmp 40), none)) rfl rfl (fun w' hS => val_move rfl) ?_
          refine pS (by kernel_rfl : opAt F22.o5 5 = some (some 42, .move (.tmp 13), (some (4, true)))) rfl rfl ?_
          refine pS (by kernel_rfl : opAt F22.o5 6 = some (some 43, .move (.tmp 15), (some (4, true)))) rfl rfl ?_
          refine pS (by kernel_rfl : opAt F22.o5 7 = some (some 44, .binOp .eql 3 (.tmp 42) (.tmp 43) 3, (some (4, true)))) rfl rfl ?_
          refine yS (by kernel_rfl : opAt F22.o5 8 = some (some 45, .pick (.tmp 41) (.tmp 44) (.const (.bool false)), none)) rfl rfl (fun w' hS => val_pick_f rfl rfl) ?_
          refine yS (by kernel_rfl : opAt F22.o5 9 = some (some 12, .assign (.tmp 45), none)) rfl rfl (fun w' hS => val_assign rfl) ?_
          exact Sch.nil (hcut _ _ _ (Stp.refl _ _ _) rfl (by
  have hf : pvB n m l cs ul vl = false := Bool.eq_false_iff.2 (fun e => hB (hc1.2 (pvB_iff.1 e).2.2.1))
  rw [hf]) (sub_skip rfl (sub_skip rfl (sub_skip rfl (sub_skip rfl (sub_skip rfl (sub_skip rfl (sub_skip rfl (sub_skip rfl (sub_skip rfl (sub_skip rfl (Sub.refl _))))))))))))
      · skip
        refine run_plain (id := 5) (ops := F22.o5) [(0, true), (1, true), (2, true), (3, true), (4, true), (5, true), (6, true), (7, true), (8, true), (9, true)] (by kernel_rfl) (by kernel_rfl) ?_
        refine yS (by kernel_rfl : opAt F22.o5 0 = some (some 37, .move (.tmp 14), none)) rfl rfl (fun w' hS => val_is (val_move rfl) (show _ = Value.bool false from congrArg Value.bool (Bool.eq_false_iff.2 hA))) ?_
        refine yS (by kernel_rfl : opAt F22.o5 1 = some (some 38, .move (.tmp 37), none)) rfl rfl (fun w' hS => val_move rfl) ?_
        refine pS (by kernel_rfl : opAt F22.o5 2 = some (some 39, .move (.tmp 16), (some (1, true)))) rfl rfl ?_
        refine yS (by kernel_rfl : opAt F22.o5 3 = some (some 40, .pick (.tmp 38) (.tmp 39) (.const (.bool false)), none)) rfl rfl (fun w' hS => val_pick_f rfl rfl) ?_
        refine yS (by kernel_rfl : opAt F22.o5 4 = some (some 41, .move (.tmp 40), none)) rfl rfl (fun w' hS => val_move rfl) ?_
        refine pS (by kernel_rfl : opAt F22.o5 5 = some (some 42, .move (.tmp 13), (some (4, true)))) rfl rfl ?_
        refine pS (by kernel_rfl : opAt F22.o5 6 = some (some 43, .move (.tmp 15), (some (4, true)))) rfl rfl ?_
        refine pS (by kernel_rfl : opAt F22.o5 7 = some (some 44, .binOp .eql 3 (.tmp 42) (.tmp 43) 3, (some (4, true)))) rfl rfl ?_
        refine yS (by kernel_rfl : opAt F22.o5 8 = some (some 45, .pick (.tmp 41) (.tmp 44) (.const (.bool false)), none)) rfl rfl (fun w' hS => val_pick_f rfl rfl) ?_
        refine yS (by kernel_rfl : opAt F22.o5 9 = some (some 12, .assign (.tmp 45), none)) rfl rfl (fun w' hS => val_assign rfl) ?_
        exact Sch.nil (hcut _ _ _ (Stp.refl _ _ _) rfl (by
  have hf : pvB n m l cs ul vl = false := Bool.eq_false_iff.2 (fun e => hA (hp1.2 (pvB_iff.1 e).2.1))
  rw [hf]) (sub_skip rfl (sub_skip rfl (sub_skip rfl (sub_skip rfl (sub_skip rfl (sub_skip rfl (sub_skip rfl (sub_skip rfl (sub_skip rfl (sub_skip rfl (Sub.refl _))))))))))))
    intro w4 hs
    replace hF := hF.st hs
    replace hT := hT.trans hs (by simp)
    replace hl := hl.st hs (by first | decide | (simp <;> omega))
    replace hc := hc.st hs (by first | decide | (simp <;> omega))
    replace hu := hu.st hs (by first | decide | (simp <;> omega))
    replace hv := hv.st hs (by first | decide | (simp <;> omega))
    refine run_ret1 (by kernel_rfl) Try.func22 Try.results22 rfl ?_
    exact ⟨rfl, hT.out1 (by decide)⟩
end Go.Proofs.Ytgooehopkmbkfaa
