/- Steps through functions of the program. -/
import Derived.Test.YtfmdkdfhnkennaaKCA
set_option linter.unusedVariables false
set_option linter.unusedSimpArgs false
set_option maxRecDepth 100000
set_option maxHeartbeats 400000
namespace Go.Proofs.Ytfmdkdfhnkennaa
open Go.K Go.K.Rep

namespace F44
noncomputable def c0 : Code := bodyOf Try.f44
noncomputable def c1 : Code := cl c0
noncomputable def o0 : Array Oper := rops c1
noncomputable def c2 : Code := cr c0
noncomputable def c3 : Code := cl c2
noncomputable def o1 : Array Oper := rops c3
noncomputable def c4 : Code := cr c2
end F44
theorem less27_ok {w₀ : World} {C : Nat → Nat} {x y : Couple} (hF : Lim w₀ C) : Calls Try.prog 44 #[.agg #[.int .i64 x.a, .int .i64 x.b], .agg #[.int .i64 y.a, .int .i64 y.b]] w₀ (Ret fun v w' => v = .bool (decide (ltP x y)) ∧ Stp [] w₀ C w' C) := by
  have hF0 := hF
  have hT := Stp.refl [2, 3, 4, 5, 6, 7, 8, 9] w₀ (col1 C)
  replace hF := hF.col1
  refine calls_start (c := F44.c0) (N := 24) [.agg #[.int .i64 x.a, .int .i64 x.b], .agg #[.int .i64 y.a, .int .i64 y.b]] Try.func44 (by kernel_rfl) (by kernel_rfl) (by kernel_rfl) ?_
  show Run _ _ _ _ [(0, .agg #[.int .i64 x.a, .int .i64 x.b]), (1, .agg #[.int .i64 y.a, .int .i64 y.b])] _ _
  refine run_seq (x := F44.c1) (y := F44.c2) (by kernel_rfl) ?_
  refine run_plain (id := 0) (ops := F44.o0) [(0, false), (1, false), (2, true)] (by kernel_rfl) (by kernel_rfl) ?_
  refine aS (by kernel_rfl : opAt F44.o0 0 = some (some 2, .box 25 (.tmp 0), none)) rfl rfl (a_box (cs := [.int .i64 x.a, .int .i64 x.b]) hF 3 rfl rfl) ?_
  rintro _ w1 ⟨Cw1, bw1, rfl, hs, hx, hF⟩
  refine ⟨trivial, ?_⟩
  replace hT := hT.trans hs (by simp)
  refine aS (by kernel_rfl : opAt F44.o0 1 = some (some 3, .box 25 (.tmp 1), none)) rfl rfl (a_box (cs := [.int .i64 y.a, .int .i64 y.b]) hF 3 rfl rfl) ?_
  rintro _ w2 ⟨Cw2, bw2, rfl, hs, hy, hF⟩
  refine ⟨trivial, ?_⟩
  replace hT := hT.trans hs (by simp)
  replace hx := hx.st hs (by first | decide | (simp <;> omega))
  refine yS (by kernel_rfl : opAt F44.o0 2 = some (some 4, .assign (.const (.bool false)), none)) rfl rfl (fun w' hS => val_assign rfl) ?_
  refine Sch.nil ?_
  refine kp (sub_cons 2 rfl rfl (sub_cons 3 rfl rfl (sub_nil _))) ?_
  refine run_seq (x := F44.c3) (y := F44.c4) (by kernel_rfl) ?_
  refine run_cut 4 (decide (ltP x y)) (Cw2) ?_ ?_
  · intro hcut
    by_cases hA : x.a < y.a
    · skip
      refine run_plain (id := 1) (ops := F44.o1) [(0, true), (1, false), (2, true), (3, false), (4, true), (5, true), (6, true), (7, false), (8, true), (9, false), (10, true), (11, true), (12, true), (13, false), (14, true), (15, false), (16, true), (17, true), (18, true), (19, true)] (by kernel_rfl) (by kernel_rfl) ?_
      refine yS (by kernel_rfl : opAt F44.o1 0 = some (some 5, .fieldAddr 25 (.tmp 2) 0, none)) rfl rfl (fun w' hS => val_fieldAddr (off := 0) (by kernel_rfl) rfl) ?_
      refine nS (by kernel_rfl : opAt F44.o1 1 = some (some 6, .load 3 (.tmp 5), none)) rfl rfl trivial (val_loadOwn hx.at_ (by kernel_rfl) rfl rfl) ?_
      refine yS (by kernel_rfl : opAt F44.o1 2 = some (some 7, .fieldAddr 25 (.tmp 3) 0, none)) rfl rfl (fun w' hS => val_fieldAddr (off := 0) (by kernel_rfl) rfl) ?_
      refine nS (by kernel_rfl : opAt F44.o1 3 = some (some 8, .load 3 (.tmp 7), none)) rfl rfl trivial (val_loadOwn hy.at_ (by kernel_rfl) rfl rfl) ?_
      refine yS (by kernel_rfl : opAt F44.o1 4 = some (some 9, .binOp .lss 3 (.tmp 6) (.tmp 8) 3, none)) rfl rfl (fun w' hS => val_T (val_lss rfl rfl) hA) ?_
      refine yS (by kernel_rfl : opAt F44.o1 5 = some (some 10, .move (.tmp 9), none)) rfl rfl (fun w' hS => val_move rfl) ?_
      refine pS (by kernel_rfl : opAt F44.o1 6 = some (some 11, .fieldAddr 25 (.tmp 2) 0, (some (5, false)))) rfl rfl ?_
      refine pW (by kernel_rfl : opAt F44.o1 7 = some (some 12, .load 3 (.tmp 11), (some (5, false)))) rfl rfl trivial ?_
      refine pS (by kernel_rfl : opAt F44.o1 8 = some (some 13, .fieldAddr 25 (.tmp 3) 0, (some (5, false)))) rfl rfl ?_
      refine pW (by kernel_rfl : opAt F44.o1 9 = some (some 14, .load 3 (.tmp 13), (some (5, false)))) rfl rfl trivial ?_
      refine pS (by kernel_rfl : opAt F44.o1 10 = some (some 15, .binOp .eql 3 (.tmp 12) (.tmp 14) 3, (some (5, false)))) rfl rfl ?_
      refine pS (by kernel_rfl : opAt F44.o1 11 = some (some 16, .move (.tmp 15), (some (5, false)))) rfl rfl ?_
      refine pS (by kernel_rfl : opAt F44.o1 12 = some (some 17, .fieldAddr 25 (.tmp 2) 1, (some (11, true)))) rfl rfl ?_
      refine pW (by kernel_rfl : opAt F44.o1 13 = some (some 18, .load 3 (.tmp 17), (some (11, true)))) rfl rfl trivial ?_
      refine pS (by kernel_rfl : opAt F44.o1 14 = some (some 19, .fieldAddr 25 (.tmp 3) 1, (some (11, true)))) rfl rfl ?_
      refine pW (by kernel_rfl : opAt F44.o1 15 = some (some 20, .load 3 (.tmp 19), (some (11, true)))) rfl rfl trivial ?_
      refine pS (by kernel_rfl : opAt F44.o1 16 = some (some 21, .binOp .lss 3 (.tmp 18) (.tmp 20) 3, (some (11, true)))) rfl rfl ?_
      refine pS (by kernel_rfl : opAt F44.o1 17 = some (some 22, .pick (.tmp 16) (.tmp 21) (.const (.bool false)), (some (5, false)))) rfl rfl ?_
      refine yS (by kernel_rfl : opAt F44.o1 18 = some (some 23, .pick (.tmp 10) (.const (.bool true)) (.tmp 22), none)) rfl rfl (fun w' hS => val_pick_t rfl rfl) ?_
      refine yS (by kernel_rfl : opAt F44.o1 19 = some (some 4, .assign (.tmp 23), none)) rfl rfl (fun w' hS => val_assign rfl) ?_
      exact Sch.nil (hcut _ _ _ (Stp.refl _ _ _) rfl (by rw [decide_eq_true (show ltP x y from Or.inl hA)]) (sub_skip rfl (sub_skip rfl (sub_skip rfl (sub_skip rfl (sub_skip rfl (sub_skip rfl (sub_skip rfl (sub_skip rfl (sub_skip rfl (sub_skip rfl (sub_skip rfl (sub_skip rfl (sub_skip rfl (sub_skip rfl (sub_skip rfl (sub_skip rfl (sub_skip rfl (sub_skip rfl (sub_skip rfl (sub_skip rfl (Sub.refl _))))))))))))))))))))))
    · skip
      by_cases hB : x.a = y.a
      · skip
        refine run_plain (id := 1) (ops := F44.o1) [(0, true), (1, false), (2, true), (3, false), (4, true), (5, true), (6, true), (7, false), (8, true), (9, false), (10, true), (11, true), (12, true), (13, false), (14, true), (15, false), (16, true), (17, true), (18, true), (19, true)] (by kernel_rfl) (by kernel_rfl) ?_
        refine yS (by kernel_rfl : opAt F44.o1 0 = some (some 5, .fieldAddr 25 (.tmp 2) 0, none)) rfl rfl (fun w' hS => val_fieldAddr (off := 0) (by kernel_rfl) rfl) ?_
        refine nS (by kernel_rfl : opAt F44.o1 1 = some (some 6, .load 3 (.tmp 5), none)) rfl rfl trivial (val_loadOwn hx.at_ (by kernel_rfl) rfl rfl) ?_
        refine yS (by kernel_rfl : opAt F44.o1 2 = some (some 7, .fieldAddr 25 (.tmp 3) 0, none)) rfl rfl (fun w' hS => val_fieldAddr (off := 0) (by kernel_rfl) rfl) ?_
        refine nS (by kernel_rfl : opAt F44.o1 3 = some (some 8, .load 3 (.tmp 7), none)) rfl rfl trivial (val_loadOwn hy.at_ (by kernel_rfl) rfl rfl) ?_
        refine yS (by kernel_rfl : opAt F44.o1 4 = some (some 9, .binOp .lss 3 (.tmp 6) (.tmp 8) 3, none)) rfl rfl (fun w' hS => val_F (val_lss rfl rfl) hA) ?_
        refine yS (by kernel_rfl : opAt F44.o1 5 = some (some 10, .move (.tmp 9), none)) rfl rfl (fun w' hS => val_move rfl) ?_
        refine yS (by kernel_rfl : opAt F44.o1 6 = some (some 11, .fieldAddr 25 (.tmp 2) 0, (some (5, false)))) rfl rfl (fun w' hS => val_fieldAddr (off := 0) (by kernel_rfl) rfl) ?_
        refine nS (by kernel_rfl : opAt F44.o1 7 = some (some 12, .load 3 (.tmp 11), (some (5, false)))) rfl rfl trivial (val_loadOwn hx.at_ (by kernel_rfl) rfl rfl) ?_
        refine yS (by kernel_rfl : opAt F44.o1 8 = some (some 13, .fieldAddr 25 (.tmp 3) 0, (some (5, false)))) rfl rfl (fun w' hS => val_fieldAddr (off := 0) (by kernel_rfl) rfl) ?_
        refine nS (by kernel_rfl : opAt F44.o1 9 = some (some 14, .load 3 (.tmp 13), (some (5, false)))) rfl rfl trivial (val_loadOwn hy.at_ (by kernel_rfl) rfl rfl) ?_
        refine yS (by kernel_rfl : opAt F44.o1 10 = some (some 15, .binOp .eql 3 (.tmp 12) (.tmp 14) 3, (some (5, false)))) rfl rfl (fun w' hS => val_T (val_eql rfl rfl) hB) ?_
        refine yS (by kernel_rfl : opAt F44.o1 11 = some (some 16, .move (.tmp 15), (some (5, false)))) rfl rfl (fun w' hS => val_move rfl) ?_
        refine yS (by kernel_rfl : opAt F44.o1 12 = some (some 17, .fieldAddr 25 (.tmp 2) 1, (some (11, true)))) rfl rfl (fun w' hS => val_fieldAddr (off := 1) (by kernel_rfl) rfl) ?_
        refine nS (by kernel_rfl : opAt F44.o1 13 = some (some 18, .load 3 (.tmp 17), (some (11, true)))) rfl rfl trivial (val_loadOwn hx.at_ (by kernel_rfl) rfl rfl) ?_
        refine yS (by kernel_rfl : opAt F44.o1 14 = some (some 19, .fieldAddr 25 (.tmp 3) 1, (some (11, true)))) rfl rfl (fun w' hS => val_fieldAddr (off := 1) (by kernel_rfl) rfl) ?_
        refine nS (by kernel_rfl : opAt F44.o1 15 = some (some 20, .load 3 (.tmp 19), (some (11, true)))) rfl rfl trivial (val_loadOwn hy.at_ (by kernel_rfl) rfl rfl) ?_
        refine yS (by kernel_rfl : opAt F44.o1 16 = some (some 21, .binOp .lss 3 (.tmp 18) (.tmp 20) 3, (some (11, true)))) rfl rfl (fun w' hS => val_lss rfl rfl) ?_
        refine yS (by kernel_rfl : opAt F44.o1 17 = some (some 22, .pick (.tmp 16) (.tmp 21) (.const (.bool false)), (some (5, false)))) rfl rfl (fun w' hS => val_pick_t rfl rfl) ?_
        refine yS (by kernel_rfl : opAt F44.o1 18 = some (some 23, .pick (.tmp 10) (.const (.bool true)) (.tmp 22), none)) rfl rfl (fun w' hS => val_pick_f rfl rfl) ?_
        refine yS (by kernel_rfl : opAt F44.o1 19 = some (some 4, .assign (.tmp 23), none)) rfl rfl (fun w' hS => val_assign rfl) ?_
        exact Sch.nil (hcut _ _ _ (Stp.refl _ _ _) rfl (by congr 1; apply decide_eq_decide.2; unfold ltP; omega) (sub_skip rfl (sub_skip rfl (sub_skip rfl (sub_skip rfl (sub_skip rfl (sub_skip rfl (sub_skip rfl (sub_skip rfl (sub_skip rfl (sub_skip rfl (sub_skip rfl (sub_skip rfl (sub_skip rfl (sub_skip rfl (sub_skip rfl (sub_skip rfl (sub_skip rfl (sub_skip rfl (sub_skip rfl (sub_skip rfl (Sub.refl _))))))))))))))))))))))
      · skip
        refine run_plain (id := 1) (ops := F44.o1) [(0, true), (1, false), (2, true), (3, false), (4, true), (5, true), (6, true), (7, false), (8, true), (9, false), (10, true), (11, true), (12, true), (13, false), (14, true), (15, false), (16, true), (17, true), (18, true), (19, true)] (by kernel_rfl) (by kernel_rfl) ?_
        refine yS (by kernel_rfl : opAt F44.o1 0 = some (some 5, .fieldAddr 25 (.tmp 2) 0, none)) rfl rfl (fun w' hS => val_fieldAddr (off := 0) (by kernel_rfl) rfl) ?_
        refine nS (by kernel_rfl : opAt F44.o1 1 = some (some 6, .load 3 (.tmp 5), none)) rfl rfl trivial (val_loadOwn hx.at_ (by kernel_rfl) rfl rfl) ?_
        refine yS (by kernel_rfl : opAt F44.o1 2 = some (some 7, .fieldAddr 25 (.tmp 3) 0, none)) rfl rfl (fun w' hS => val_fieldAddr (off := 0) (by kernel_rfl) rfl) ?_
        refine nS (by kernel_rfl : opAt F44.o1 3 = some (some 8, .load 3 (.tmp 7), none)) rfl rfl trivial (val_loadOwn hy.at_ (by kernel_rfl) rfl rfl) ?_
        refine yS (by kernel_rfl : opAt F44.o1 4 = some (some 9, .binOp .lss 3 (.tmp 6) (.tmp 8) 3, none)) rfl rfl (fun w' hS => val_F (val_lss rfl rfl) hA) ?_
        refine yS (by kernel_rfl : opAt F44.o1 5 = some (some 10, .move (.tmp 9), none)) rfl rfl (fun w' hS => val_move rfl) ?_
        refine yS (by kernel_rfl : opAt F44.o1 6 = some (some 11, .fieldAddr 25 (.tmp 2) 0, (some (5, false)))) rfl rfl (fun w' hS => val_fieldAddr (off := 0) (by kernel_rfl) rfl) ?_
        refine nS (by kernel_rfl : opAt F44.o1 7 = some (some 12, .load 3 (.tmp 11), (some (5, false)))) rfl rfl trivial (val_loadOwn hx.at_ (by kernel_rfl) rfl rfl) ?_
        refine yS (by kernel_rfl : opAt F44.o1 8 = some (some 13, .fieldAddr 25 (.tmp 3) 0, (some (5, false)))) rfl rfl (fun w' hS => val_fieldAddr (off := 0) (by kernel_rfl) rfl) ?_
        refine nS (by kernel_rfl : opAt F44.o1 9 = some (some 14, .load 3 (.tmp 13), (some (5, false)))) rfl rfl trivial (val_loadOwn hy.at_ (by kernel_rfl) rfl rfl) ?_
        refine yS (by kernel_rfl : opAt F44.o1 10 = some (some 15, .binOp .eql 3 (.tmp 12) (.tmp 14) 3, (some (5, false)))) rfl rfl (fun w' hS => val_F (val_eql rfl rfl) hB) ?_
        refine yS (by kernel_rfl : opAt F44.o1 11 = some (some 16, .move (.tmp 15), (some (5, false)))) rfl rfl (fun w' hS => val_move rfl) ?_
        refine pS (by kernel_rfl : opAt F44.o1 12 = some (some 17, .fieldAddr 25 (.tmp 2) 1, (some (11, true)))) rfl rfl ?_
        refine pW (by kernel_rfl : opAt F44.o1 13 = some (some 18, .load 3 (.tmp 17), (some (11, true)))) rfl rfl trivial ?_
        refine pS (by kernel_rfl : opAt F44.o1 14 = some (some 19, .fieldAddr 25 (.tmp 3) 1, (some (11, true)))) rfl rfl ?_
        refine pW (by kernel_rfl : opAt F44.o1 15 = some (some 20, .load 3 (.tmp 19), (some (11, true)))) rfl rfl trivial ?_
        refine pS (by kernel_rfl : opAt F44.o1 16 = some (some 21, .binOp .lss 3 (.tmp 18) (.tmp 20) 3, (some (11, true)))) rfl rfl ?_
        refine yS (by kernel_rfl : opAt F44.o1 17 = some (some 22, .pick (.tmp 16) (.tmp 21) (.const (.bool false)), (some (5, false)))) rfl rfl (fun w' hS => val_pick_f rfl rfl) ?_
        refine yS (by kernel_rfl : opAt F44.o1 18 = some (some 23, .pick (.tmp 10) (.const (.bool true)) (.tmp 22), none)) rfl rfl (fun w' hS => val_pick_f rfl rfl) ?_
        refine yS (by kernel_rfl : opAt F44.o1 19 = some (some 4, .assign (.tmp 23), none)) rfl rfl (fun w' hS => val_assign rfl) ?_
        exact Sch.nil (hcut _ _ _ (Stp.refl _ _ _) rfl (by rw [decide_eq_false (show ¬ ltP x y from by unfold ltP; omega)]) (sub_skip rfl (sub_skip rfl (sub_skip rfl (sub_skip rfl (sub_skip rfl (sub_skip rfl (sub_skip rfl (sub_skip rfl (sub_skip rfl (sub_skip rfl (sub_skip rfl (sub_skip rfl (sub_skip rfl (sub_skip rfl (sub_skip rfl (sub_skip rfl (sub_skip rfl (sub_skip rfl (sub_skip rfl (sub_skip rfl (Sub.refl _))))))))))))))))))))))
  intro w3 hs
  replace hF := hF.st hs
  replace hT := hT.trans hs (by simp)
  replace hx := hx.st hs (by first | decide | (simp <;> omega))
  replace hy := hy.st hs (by first | decide | (simp <;> omega))
  refine run_ret1 (by kernel_rfl) Try.func44 Try.results44 rfl ?_
  exact ⟨rfl, hT.out1 (by decide)⟩
namespace F27
noncomputable def c0 : Code := bodyOf Try.f27
noncomputable def c1 : Code := cl c0
noncomputable def o0 : Array Oper := rops c1
noncomputable def c2 : Code := cr c0
noncomputable def c3 : Code := cl c2
noncomputable def o1 : Array Oper := rops c3
noncomputable def c4 : Code := cr c2
end F27
theorem less30_ok {w₀ : World} {C : Nat → Nat} {x y : Couple} (hF : Lim w₀ C) : Calls Try.prog 27 #[.agg #[.int .i64 x.a, .int .i64 x.b], .agg #[.int .i64 y.a, .int .i64 y.b]] w₀ (Ret fun v w' => v = .bool (decide (ltP x y)) ∧ Stp [] w₀ C w' C) := by
  have hF0 := hF
  have hT := Stp.refl [2, 3, 4, 5, 6, 7, 8, 9] w₀ (col1 C)
  replace hF := hF.col1
  refine calls_start (c := F27.c0) (N := 8) [.agg #[.int .i64 x.a, .int .i64 x.b], .agg #[.int .i64 y.a, .int .i64 y.b]] Try.func27 (by kernel_rfl) (by kernel_rfl) (by kernel_rfl) ?_
  show Run _ _ _ _ [(0, .agg #[.int .i64 x.a, .int .i64 x.b]), (1, .agg #[.int .i64 y.a, .int .i64 y.b])] _ _
  refine run_seq (x := F27.c1) (y := F27.c2) (by kernel_rfl) ?_
  refine run_plain (id := 0) (ops := F27.o0) [(0, false), (1, false), (2, true)] (by kernel_rfl) (by kernel_rfl) ?_
  refine aS (by kernel_rfl : opAt F27.o0 0 = some (some 2, .box 25 (.tmp 0), none)) rfl rfl (a_box (cs := [.int .i64 x.a, .int .i64 x.b]) hF 3 rfl rfl) ?_
  rintro _ w1 ⟨Cw1, bw1, rfl, hs, hx, hF⟩
  refine ⟨trivial, ?_⟩
  replace hT := hT.trans hs (by simp)
  refine aS (by kernel_rfl : opAt F27.o0 1 = some (some 3, .box 25 (.tmp 1), none)) rfl rfl (a_box (cs := [.int .i64 y.a, .int .i64 y.b]) hF 3 rfl rfl) ?_
  rintro _ w2 ⟨Cw2, bw2, rfl, hs, hy, hF⟩
  refine ⟨trivial, ?_⟩
  replace hT := hT.trans hs (by simp)
  replace hx := hx.st hs (by first | decide | (simp <;> omega))
  refine yS (by kernel_rfl : opAt F27.o0 2 = some (some 4, .assign (.const (.bool false)), none)) rfl rfl (fun w' hS => val_assign rfl) ?_
  refine Sch.nil ?_
  refine run_seq (x := F27.c3) (y := F27.c4) (by kernel_rfl) ?_
  refine run_plain (id := 1) (ops := F27.o1) [(0, false), (1, false), (2, false), (3, true)] (by kernel_rfl) (by kernel_rfl) ?_
  refine nS (by kernel_rfl : opAt F27.o1 0 = some (some 5, .load 25 (.tmp 2), none)) rfl rfl trivial (val_loadOwnAgg (n := 2) (vs := encR x) hx.at_ (by kernel_rfl) (by kernel_rfl) rfl rfl rfl) ?_
  refine nS (by kernel_rfl : opAt F27.o1 1 = some (some 6, .load 25 (.tmp 3), none)) rfl rfl trivial (val_loadOwnAgg (n := 2) (vs := encR y) hy.at_ (by kernel_rfl) (by kernel_rfl) rfl rfl rfl) ?_
  refine cS (by kernel_rfl : opAt F27.o1 2 = some (some 7, .call { callee := .value (.func 44), args := #[(.tmp 5), (.tmp 6)], argTypes := #[25, 25] }, none)) rfl rfl (ent Try.call44 rfl) (less27_ok (x := x) (y := y) hF) ?_
  rintro vw3 w3 ⟨rfl, hs⟩
  refine ⟨trivial, ?_⟩
  replace hF := hF.st hs
  replace hT := hT.trans hs (by simp)
  replace hx := hx.st hs (by first | decide | (simp <;> omega))
  replace hy := hy.st hs (by first | decide | (simp <;> omega))
  refine yS (by kernel_rfl : opAt F27.o1 3 = some (some 4, .assign (.tmp 7), none)) rfl rfl (fun w' hS => val_assign rfl) ?_
  refine Sch.nil ?_
  refine run_ret1 (by kernel_rfl) Try.func27 Try.results27 rfl ?_
  exact ⟨rfl, hT.out1 (by decide)⟩
namespace F16
noncomputable def c0 : Code := bodyOf Try.f16
noncomputable def c1 : Code := cl c0
noncomputable def o0 : Array Oper := rops c1
noncomputable def c2 : Code := cr c0
noncomputable def c3 : Code := cl c2
noncomputable def c4 : Code := cl c3
noncomputable def o1 : Array Oper := rops c4
noncomputable def c5 : Code := cr c3
noncomputable def c6 : Code := cl c5
noncomputable def c7 : Code := cl c6
noncomputable def o2 : Array Oper := rops c7
noncomputable def c8 : Code := cr c6
noncomputable def c9 : Code := cr c5
noncomputable def c10 : Code := cr c2
noncomputable def c11 : Code := cl c10
noncomputable def c12 : Code := cl c11
noncomputable def o3 : Array Oper := rops c12
noncomputable def c13 : Code := cr c11
noncomputable def c14 : Code := cl c13
noncomputable def c15 : Code := cl c14
noncomputable def c16 : Code := cl c15
noncomputable def c17 : Code := cl c16
noncomputable def o4 : Array Oper := rops c17
noncomputable def c18 : Code := cr c16
noncomputable def c19 : Code := cl c18
noncomputable def c20 : Code := cr c18
noncomputable def c21 : Code := cr c15
noncomputable def c22 : Code := cl c21
noncomputable def c23 : Code := cl c22
noncomputable def c24 : Code := cl c23
noncomputable def o6 : Array Oper := rops c24
noncomputable def c25 : Code := cr c23
noncomputable def c26 : Code := cl c25
noncomputable def c27 : Code := cl c26
noncomputable def o7 : Array Oper := rops c27
noncomputable def c28 : Code := cr c26
noncomputable def c29 : Code := cr c25
noncomputable def c30 : Code := cr c21
noncomputable def o5 : Array Oper := rops c30
noncomputable def c31 : Code := cr c10
noncomputable def c32 : Code := cl c31
noncomputable def o8 : Array Oper := rops c32
noncomputable def c33 : Code := cr c31
end F16
theorem sameRefs_ok {w₀ : World} {C : Nat → Nat} {l : List Couple} {va vb : Value} (hF : Lim w₀ C) (ha : RV w₀ (Mc C) l va) (hb : RV w₀ (Mc C) l vb) : Calls Try.prog 16 #[va, vb] w₀ (Ret fun v w' => v = .bool true ∧ Stp [] w₀ C w' C) := by
  have hF0 := hF
  have hT := Stp.refl [2, 3, 4, 5, 6, 7, 8, 9] w₀ (col1 C)
  replace hF := hF.col1
  replace ha : RV w₀ (Mc (col1 C)) l va := by rw [Mc_col1]; exact ha
  replace hb : RV w₀ (Mc (col1 C)) l vb := by rw [Mc_col1]; exact hb
  refine calls_start (c := F16.c0) (N := 26) [va, vb] Try.func16 (by kernel_rfl) (by kernel_rfl) (by kernel_rfl) ?_
  show Run _ _ _ _ [(0, va), (1, vb)] _ _
  refine run_seq (x := F16.c1) (y := F16.c2) (by kernel_rfl) ?_
  refine run_plain (id := 0) (ops := F16.o0) [(0, true)] (by kernel_rfl) (by kernel_rfl) ?_
  refine yS (by kernel_rfl : opAt F16.o0 0 = some (some 4, .assign (.const (.bool false)), none)) rfl rfl (fun w' hS => val_assign rfl) ?_
  refine Sch.nil ?_
  refine run_seq (x := F16.c3) (y := F16.c10) (by kernel_rfl) ?_
  refine run_seq (x := F16.c4) (y := F16.c5) (by kernel_rfl) ?_
  refine run_plain (id := 1) (ops := F16.o1) [(0, true), (1, true), (2, true), (3, true), (4, true)] (by kernel_rfl) (by kernel_rfl) ?_
  refine yS (by kernel_rfl : opAt F16.o1 0 = some (some 6, .move (.tmp 0), none)) rfl rfl (fun w' hS => val_move rfl) ?_
  refine yS (by kernel_rfl : opAt F16.o1 1 = some (some 7, .call { callee := .builtin .len, args := #[(.tmp 6)], argTypes := #[38] }, none)) rfl rfl (fun w' hS => ha.lenV rfl Try.underlying38 w' ) ?_
  refine yS (by kernel_rfl : opAt F16.o1 2 = some (some 8, .move (.tmp 1), none)) rfl rfl (fun w' hS => val_move rfl) ?_
  refine yS (by kernel_rfl : opAt F16.o1 3 = some (some 9, .call { callee := .builtin .len, args := #[(.tmp 8)], argTypes := #[38] }, none)) rfl rfl (fun w' hS => hb.lenV rfl Try.underlying38 w' ) ?_
  refine yS (by kernel_rfl : opAt F16.o1 4 = some (some 10, .binOp .neq 3 (.tmp 7) (.tmp 9) 3, none)) rfl rfl (fun w' hS => val_F (val_neq rfl rfl) (fun e => e rfl)) ?_
  refine Sch.nil ?_
  refine run_cond (x := F16.c6) (y := F16.c9) (o := .tmp 10) (b := false) (by kernel_rfl) rfl (fun h => by cases h) (fun _ => ?_)
  refine run_skip (by kernel_rfl) ?_
  refine run_seq (x := F16.c11) (y := F16.c31) (by kernel_rfl) ?_
  refine run_seq (x := F16.c12) (y := F16.c13) (by kernel_rfl) ?_
  refine run_plain (id := 3) (ops := F16.o3) [(0, true)] (by kernel_rfl) (by kernel_rfl) ?_
  refine yS (by kernel_rfl : opAt F16.o3 0 = some (some 5, .assign (.const (.int .i64 0)), none)) rfl rfl (fun w' hS => val_assign rfl) ?_
  refine Sch.nil ?_
  refine run_block (x := F16.c14) (id := 0) (by kernel_rfl) ?_
  
  refine run_loop (ι := Nat × (Nat → Nat)) (I := fun x w => x.1 ≤ l.length ∧ Lim w x.2 ∧ Stp [2, 3, 4, 5, 6, 7, 8, 9] w₀ (col1 C) w x.2 ∧ RV w (Mc x.2) l va ∧ RV w (Mc x.2) l vb) (e := fun x => [(0, va), (1, vb), (5, .int .i64 x.1)]) (m := fun x => l.length - x.1) (x₀ := (0, col1 C)) (body := F16.c15) (by kernel_rfl) (sub_cons 0 rfl rfl (sub_cons 1 rfl rfl (sub_cons 5 rfl rfl (sub_nil _)))) ?_ ?_
  · exact ⟨Nat.zero_le _, hF, hT, ha, hb⟩
  intro ⟨i, C1⟩ w1 hI next
  obtain ⟨hi, hF, hT, ha, hb⟩ := hI
  try simp only at hi hF hT ha hb
  have next1 := next
  clear next
  show Run _ _ _ _ [(0, va), (1, vb), (5, .int .i64 i)] _ _
  have hle := ha.le
  refine run_seq (x := F16.c16) (y := F16.c21) (by kernel_rfl) ?_
  refine run_seq (x := F16.c17) (y := F16.c18) (by kernel_rfl) ?_
  refine run_plain (id := 4) (ops := F16.o4) [(0, true), (1, true), (2, true), (3, true)] (by kernel_rfl) (by kernel_rfl) ?_
  refine yS (by kernel_rfl : opAt F16.o4 0 = some (some 11, .move (.tmp 5), none)) rfl rfl (fun w' hS => val_move rfl) ?_
  refine yS (by kernel_rfl : opAt F16.o4 1 = some (some 12, .move (.tmp 0), none)) rfl rfl (fun w' hS => val_move rfl) ?_
  refine yS (by kernel_rfl : opAt F16.o4 2 = some (some 13, .call { callee := .builtin .len, args := #[(.tmp 12)], argTypes := #[38] }, none)) rfl rfl (fun w' hS => ha.lenV rfl Try.underlying38 w' ) ?_
  refine yS (by kernel_rfl : opAt F16.o4 3 = some (some 14, .binOp .lss 3 (.tmp 11) (.tmp 13) 3, none)) rfl rfl (fun w' hS => val_lss rfl rfl) ?_
  refine Sch.nil ?_
  refine run_if (x := F16.c19) (y := F16.c20) (o := .tmp 14) (by kernel_rfl) rfl (fun h14 => ?_) (fun h14 => ?_)
  · skip
    have hil : i < l.length := by omega
    refine run_skip (by kernel_rfl) ?_
    refine run_seq (x := F16.c22) (y := F16.c30) (by kernel_rfl) ?_
    refine run_block (x := F16.c23) (id := 1) (by kernel_rfl) ?_
    refine run_seq (x := F16.c24) (y := F16.c25) (by kernel_rfl) ?_
    refine run_draw (id := 6) (ops := F16.o6) [] (C1) [(0, true), (1, true), (2, true), (3, true), (4, true), (5, true), (6, true), (7, true), (8, true)] Try_mixed (by kernel_rfl) (by kernel_rfl) (by kernel_rfl) ?_
    intro w2 hs
    replace hF := hF.st hs
    replace hT := hT.trans hs (by simp)
    replace ha := ha.st hs (by first | decide | (simp <;> omega))
    replace hb := hb.st hs (by first | decide | (simp <;> omega))
    refine yS (by kernel_rfl : opAt F16.o6 0 = some (some 17, .move (.tmp 0), none)) rfl rfl (fun w' hS => val_move rfl) ?_
    refine yS (by kernel_rfl : opAt F16.o6 1 = some (some 18, .move (.tmp 5), none)) rfl rfl (fun w' hS => val_move rfl) ?_
    refine iS (e := 25) (by kernel_rfl : opAt F16.o6 2 = some (some 19, .indexAddr 38 (.tmp 17) (.tmp 18), none)) rfl rfl ha rfl (by kernel_rfl) rfl (by omega) (by omega) ?_
    intro b19 o19 h19
    try simp only [Int.toNat_natCast] at h19
    refine lSA (by kernel_rfl : opAt F16.o6 3 = some (some 20, .load 25 (.tmp 19), none)) rfl rfl (fun w' hS => h19.stay hS (by decide)) h19 (by kernel_rfl) (by kernel_rfl) rfl rfl ?_
    intro v20 g20
    refine yS (by kernel_rfl : opAt F16.o6 4 = some (some 21, .move (.tmp 1), none)) rfl rfl (fun w' hS => val_move rfl) ?_
    refine yS (by kernel_rfl : opAt F16.o6 5 = some (some 22, .move (.tmp 5), none)) rfl rfl (fun w' hS => val_move rfl) ?_
    refine iS (e := 25) (by kernel_rfl : opAt F16.o6 6 = some (some 23, .indexAddr 38 (.tmp 21) (.tmp 22), none)) rfl rfl hb rfl (by kernel_rfl) rfl (by omega) (by omega) ?_
    intro b23 o23 h23
    try simp only [Int.toNat_natCast] at h23
    refine lSA (by kernel_rfl : opAt F16.o6 7 = some (some 24, .load 25 (.tmp 23), none)) rfl rfl (fun w' hS => h23.stay hS (by decide)) h23 (by kernel_rfl) (by kernel_rfl) rfl rfl ?_
    intro v24 g24
    obtain rfl := rv_couple.1 g20
    obtain rfl := rv_couple.1 g24
    refine yS (by kernel_rfl : opAt F16.o6 8 = some (some 25, .binOp .neq 25 (.tmp 20) (.tmp 24) 25, none)) rfl rfl (fun w' hS => val_F (val_neC (a := _) (b := _) Try.underlying25 (by decide) (by decide) (by kernel_rfl) Try.underlying3 rfl rfl) (fun e => e rfl)) ?_
    refine Sch.nil ?_
    refine run_cond (x := F16.c26) (y := F16.c29) (o := .tmp 25) (b := false) (by kernel_rfl) rfl (fun h => by cases h) (fun _ => ?_)
    refine run_skip (by kernel_rfl) ?_
    refine run_inBlock ?_
    refine run_plain (id := 5) (ops := F16.o5) [(0, true), (1, true), (2, true)] (by kernel_rfl) (by kernel_rfl) ?_
    refine yS (by kernel_rfl : opAt F16.o5 0 = some (some 15, .move (.tmp 5), none)) rfl rfl (fun w' hS => val_move rfl) ?_
    refine yS (by kernel_rfl : opAt F16.o5 1 = some (some 16, .binOp .add 3 (.tmp 15) (.const (.int .i64 1)) 3, none)) rfl rfl (fun w' hS => val_addi rfl rfl (by omega) (by omega)) ?_
    refine yS (by kernel_rfl : opAt F16.o5 2 = some (some 5, .assign (.tmp 16), none)) rfl rfl (fun w' hS => val_assign rfl) ?_
    refine Sch.nil ?_
    refine kp (sub_cons 0 rfl rfl (sub_cons 1 rfl rfl (sub_cons 5 rfl (eq_int (by simp)) (sub_nil _)))) (next1 (i + 1, C1) _ ⟨(by first | omega | (simp only; omega)), hF, hT, ha, hb⟩ (by first | omega | (simp only; omega)))
  · skip
    refine run_exit (id := 0) (by kernel_rfl) rfl ?_
    refine run_seq (x := F16.c32) (y := F16.c33) (by kernel_rfl) ?_
    refine run_plain (id := 8) (ops := F16.o8) [(0, true)] (by kernel_rfl) (by kernel_rfl) ?_
    refine yS (by kernel_rfl : opAt F16.o8 0 = some (some 4, .assign (.const (.bool true)), none)) rfl rfl (fun w' hS => val_assign rfl) ?_
    refine Sch.nil ?_
    refine run_ret1 (by kernel_rfl) Try.func16 Try.results16 rfl ?_
    exact ⟨rfl, hT.out1 (by decide)⟩
end Go.Proofs.Ytfmdkdfhnkennaa

