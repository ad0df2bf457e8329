/- Steps through functions of the program. -/
import Derived.Test.YtpmokjccfaakfaaKQB
set_option linter.unusedVariables false
set_option linter.unusedSimpArgs false
set_option maxRecDepth 100000
set_option maxHeartbeats 400000
namespace Go.Proofs.Ytpmokjccfaakfaa
open Go.K Go.K.Rep

namespace F32
noncomputable def c0 : Code := bodyOf Try.f32
noncomputable def c1 : Code := cl c0
noncomputable def o0 : Array Oper := rops c1
noncomputable def c2 : Code := cr c0
noncomputable def c3 : Code := cl c2
noncomputable def o1 : Array Oper := rops c3
noncomputable def c4 : Code := cr c2
end F32
theorem before_ok {w₀ : World} {C : Nat → Nat} {x y : Couple} (hF : Lim w₀ C) : Calls Try.prog 32 #[.agg #[.int .i64 x.a, .int .i64 x.b], .agg #[.int .i64 y.a, .int .i64 y.b]] w₀ (Ret fun v w' => v = .bool (ltB x y) ∧ Stp [] w₀ C w' C) := by
  have hF0 := hF
  have hT := Stp.refl [2, 3, 4, 5, 6, 7, 8, 9] w₀ (col1 C)
  replace hF := hF.col1
  refine calls_start (c := F32.c0) (N := 24) [.agg #[.int .i64 x.a, .int .i64 x.b], .agg #[.int .i64 y.a, .int .i64 y.b]] Try.func32 (by kernel_rfl) (by kernel_rfl) (by kernel_rfl) ?_
  show Run _ _ _ _ [(0, .agg #[.int .i64 x.a, .int .i64 x.b]), (1, .agg #[.int .i64 y.a, .int .i64 y.b])] _ _
  refine run_seq (x := F32.c1) (y := F32.c2) (by kernel_rfl) ?_
  refine run_plain (id := 0) (ops := F32.o0) [(0, false), (1, false), (2, true)] (by kernel_rfl) (by kernel_rfl) ?_
  refine aS (by kernel_rfl : opAt F32.o0 0 = some (some 2, .box 50 (.tmp 0), none)) rfl rfl (a_box (cs := [.int .i64 x.a, .int .i64 x.b]) hF 3 rfl rfl) ?_
  rintro _ w1 ⟨Cw1, bw1, rfl, hs, hx, hF⟩
  refine ⟨trivial, ?_⟩
  replace hT := hT.trans hs (by simp)
  refine aS (by kernel_rfl : opAt F32.o0 1 = some (some 3, .box 50 (.tmp 1), none)) rfl rfl (a_box (cs := [.int .i64 y.a, .int .i64 y.b]) hF 3 rfl rfl) ?_
  rintro _ w2 ⟨Cw2, bw2, rfl, hs, hy, hF⟩
  refine ⟨trivial, ?_⟩
  replace hT := hT.trans hs (by simp)
  replace hx := hx.st hs (by first | decide | (simp <;> omega))
  refine yS (by kernel_rfl : opAt F32.o0 2 = some (some 4, .assign (.const (.bool false)), none)) rfl rfl (fun w' hS => val_assign rfl) ?_
  refine Sch.nil ?_
  refine kp (sub_cons 2 rfl rfl (sub_cons 3 rfl rfl (sub_nil _))) ?_
  refine run_seq (x := F32.c3) (y := F32.c4) (by kernel_rfl) ?_
  refine run_cut 4 (ltB x y) (Cw2) ?_ ?_
  · intro hcut
    by_cases hA : x.a < y.a
    · skip
      refine run_plain (id := 1) (ops := F32.o1) [(0, true), (1, false), (2, true), (3, false), (4, true), (5, true), (6, true), (7, false), (8, true), (9, false), (10, true), (11, true), (12, true), (13, false), (14, true), (15, false), (16, true), (17, true), (18, true), (19, true)] (by kernel_rfl) (by kernel_rfl) ?_
      refine yS (by kernel_rfl : opAt F32.o1 0 = some (some 5, .fieldAddr 50 (.tmp 2) 0, none)) rfl rfl (fun w' hS => val_fieldAddr (off := 0) (by kernel_rfl) rfl) ?_
      refine nS (by kernel_rfl : opAt F32.o1 1 = some (some 6, .load 3 (.tmp 5), none)) rfl rfl trivial (val_loadOwn hx.at_ (by kernel_rfl) rfl rfl) ?_
      refine yS (by kernel_rfl : opAt F32.o1 2 = some (some 7, .fieldAddr 50 (.tmp 3) 0, none)) rfl rfl (fun w' hS => val_fieldAddr (off := 0) (by kernel_rfl) rfl) ?_
      refine nS (by kernel_rfl : opAt F32.o1 3 = some (some 8, .load 3 (.tmp 7), none)) rfl rfl trivial (val_loadOwn hy.at_ (by kernel_rfl) rfl rfl) ?_
      refine yS (by kernel_rfl : opAt F32.o1 4 = some (some 9, .binOp .lss 3 (.tmp 6) (.tmp 8) 3, none)) rfl rfl (fun w' hS => val_T (val_lss rfl rfl) hA) ?_
      refine yS (by kernel_rfl : opAt F32.o1 5 = some (some 10, .move (.tmp 9), none)) rfl rfl (fun w' hS => val_move rfl) ?_
      refine pS (by kernel_rfl : opAt F32.o1 6 = some (some 11, .fieldAddr 50 (.tmp 2) 0, (some (5, false)))) rfl rfl ?_
      refine pW (by kernel_rfl : opAt F32.o1 7 = some (some 12, .load 3 (.tmp 11), (some (5, false)))) rfl rfl trivial ?_
      refine pS (by kernel_rfl : opAt F32.o1 8 = some (some 13, .fieldAddr 50 (.tmp 3) 0, (some (5, false)))) rfl rfl ?_
      refine pW (by kernel_rfl : opAt F32.o1 9 = some (some 14, .load 3 (.tmp 13), (some (5, false)))) rfl rfl trivial ?_
      refine pS (by kernel_rfl : opAt F32.o1 10 = some (some 15, .binOp .eql 3 (.tmp 12) (.tmp 14) 3, (some (5, false)))) rfl rfl ?_
      refine pS (by kernel_rfl : opAt F32.o1 11 = some (some 16, .move (.tmp 15), (some (5, false)))) rfl rfl ?_
      refine pS (by kernel_rfl : opAt F32.o1 12 = some (some 17, .fieldAddr 50 (.tmp 2) 1, (some (11, true)))) rfl rfl ?_
      refine pW (by kernel_rfl : opAt F32.o1 13 = some (some 18, .load 3 (.tmp 17), (some (11, true)))) rfl rfl trivial ?_
      refine pS (by kernel_rfl : opAt F32.o1 14 = some (some 19, .fieldAddr 50 (.tmp 3) 1, (some (11, true)))) rfl rfl ?_
      refine pW (by kernel_rfl : opAt F32.o1 15 = some (some 20, .load 3 (.tmp 19), (some (11, true)))) rfl rfl trivial ?_
      refine pS (by kernel_rfl : opAt F32.o1 16 = some (some 21, .binOp .lss 3 (.tmp 18) (.tmp 20) 3, (some (11, true)))) rfl rfl ?_
      refine pS (by kernel_rfl : opAt F32.o1 17 = some (some 22, .pick (.tmp 16) (.tmp 21) (.const (.bool false)), (some (5, false)))) rfl rfl ?_
      refine yS (by kernel_rfl : opAt F32.o1 18 = some (some 23, .pick (.tmp 10) (.const (.bool true)) (.tmp 22), none)) rfl rfl (fun w' hS => val_pick_t rfl rfl) ?_
      refine yS (by kernel_rfl : opAt F32.o1 19 = some (some 4, .assign (.tmp 23), none)) rfl rfl (fun w' hS => val_assign rfl) ?_
      exact Sch.nil (hcut _ _ _ (Stp.refl _ _ _) rfl (by unfold ltB; rw [decide_eq_true hA]; rfl) (sub_skip rfl (sub_skip rfl (sub_skip rfl (sub_skip rfl (sub_skip rfl (sub_skip rfl (sub_skip rfl (sub_skip rfl (sub_skip rfl (sub_skip rfl (sub_skip rfl (sub_skip rfl (sub_skip rfl (sub_skip rfl (sub_skip rfl (sub_skip rfl (sub_skip rfl (sub_skip rfl (sub_skip rfl (sub_skip rfl (Sub.refl _))))))))))))))))))))))
    · skip
      by_cases hB : x.a = y.a
      · skip
        refine run_plain (id := 1) (ops := F32.o1) [(0, true), (1, false), (2, true), (3, false), (4, true), (5, true), (6, true), (7, false), (8, true), (9, false), (10, true), (11, true), (12, true), (13, false), (14, true), (15, false), (16, true), (17, true), (18, true), (19, true)] (by kernel_rfl) (by kernel_rfl) ?_
        refine yS (by kernel_rfl : opAt F32.o1 0 = some (some 5, .fieldAddr 50 (.tmp 2) 0, none)) rfl rfl (fun w' hS => val_fieldAddr (off := 0) (by kernel_rfl) rfl) ?_
        refine nS (by kernel_rfl : opAt F32.o1 1 = some (some 6, .load 3 (.tmp 5), none)) rfl rfl trivial (val_loadOwn hx.at_ (by kernel_rfl) rfl rfl) ?_
        refine yS (by kernel_rfl : opAt F32.o1 2 = some (some 7, .fieldAddr 50 (.tmp 3) 0, none)) rfl rfl (fun w' hS => val_fieldAddr (off := 0) (by kernel_rfl) rfl) ?_
        refine nS (by kernel_rfl : opAt F32.o1 3 = some (some 8, .load 3 (.tmp 7), none)) rfl rfl trivial (val_loadOwn hy.at_ (by kernel_rfl) rfl rfl) ?_
        refine yS (by kernel_rfl : opAt F32.o1 4 = some (some 9, .binOp .lss 3 (.tmp 6) (.tmp 8) 3, none)) rfl rfl (fun w' hS => val_F (val_lss rfl rfl) hA) ?_
        refine yS (by kernel_rfl : opAt F32.o1 5 = some (some 10, .move (.tmp 9), none)) rfl rfl (fun w' hS => val_move rfl) ?_
        refine yS (by kernel_rfl : opAt F32.o1 6 = some (some 11, .fieldAddr 50 (.tmp 2) 0, (some (5, false)))) rfl rfl (fun w' hS => val_fieldAddr (off := 0) (by kernel_rfl) rfl) ?_
        refine nS (by kernel_rfl : opAt F32.o1 7 = some (some 12, .load 3 (.tmp 11), (some (5, false)))) rfl rfl trivial (val_loadOwn hx.at_ (by kernel_rfl) rfl rfl) ?_
        refine yS (by kernel_rfl : opAt F32.o1 8 = some (some 13, .fieldAddr 50 (.tmp 3) 0, (some (5, false)))) rfl rfl (fun w' hS => val_fieldAddr (off := 0) (by kernel_rfl) rfl) ?_
        refine nS (by kernel_rfl : opAt F32.o1 9 = some (some 14, .load 3 (.tmp 13), (some (5, false)))) rfl rfl trivial (val_loadOwn hy.at_ (by kernel_rfl) rfl rfl) ?_
        refine yS (by kernel_rfl : opAt F32.o1 10 = some (some 15, .binOp .eql 3 (.tmp 12) (.tmp 14) 3, (some (5, false)))) rfl rfl (fun w' hS => val_T (val_eql rfl rfl) hB) ?_
        refine yS (by kernel_rfl : opAt F32.o1 11 = some (some 16, .move (.tmp 15), (some (5, false)))) rfl rfl (fun w' hS => val_move rfl) ?_
        refine yS (by kernel_rfl : opAt F32.o1 12 = some (some 17, .fieldAddr 50 (.tmp 2) 1, (some (11, true)))) rfl rfl (fun w' hS => val_fieldAddr (off := 1) (by kernel_rfl) rfl) ?_
        refine nS (by kernel_rfl : opAt F32.o1 13 = some (some 18, .load 3 (.tmp 17), (some (11, true)))) rfl rfl trivial (val_loadOwn hx.at_ (by kernel_rfl) rfl rfl) ?_
        refine yS (by kernel_rfl : opAt F32.o1 14 = some (some 19, .fieldAddr 50 (.tmp 3) 1, (some (11, true)))) rfl rfl (fun w' hS => val_fieldAddr (off := 1) (by kernel_rfl) rfl) ?_
        refine nS (by kernel_rfl : opAt F32.o1 15 = some (some 20, .load 3 (.tmp 19), (some (11, true)))) rfl rfl trivial (val_loadOwn hy.at_ (by kernel_rfl) rfl rfl) ?_
        refine yS (by kernel_rfl : opAt F32.o1 16 = some (some 21, .binOp .lss 3 (.tmp 18) (.tmp 20) 3, (some (11, true)))) rfl rfl (fun w' hS => val_lss rfl rfl) ?_
        refine yS (by kernel_rfl : opAt F32.o1 17 = some (some 22, .pick (.tmp 16) (.tmp 21) (.const (.bool false)), (some (5, false)))) rfl rfl (fun w' hS => val_pick_t rfl rfl) ?_
        refine yS (by kernel_rfl : opAt F32.o1 18 = some (some 23, .pick (.tmp 10) (.const (.bool true)) (.tmp 22), none)) rfl rfl (fun w' hS => val_pick_f rfl rfl) ?_
        refine yS (by kernel_rfl : opAt F32.o1 19 = some (some 4, .assign (.tmp 23), none)) rfl rfl (fun w' hS => val_assign rfl) ?_
        exact Sch.nil (hcut _ _ _ (Stp.refl _ _ _) rfl (by unfold ltB; rw [decide_eq_false hA, decide_eq_true hB]; rfl) (sub_skip rfl (sub_skip rfl (sub_skip rfl (sub_skip rfl (sub_skip rfl (sub_skip rfl (sub_skip rfl (sub_skip rfl (sub_skip rfl (sub_skip rfl (sub_skip rfl (sub_skip rfl (sub_skip rfl (sub_skip rfl (sub_skip rfl (sub_skip rfl (sub_skip rfl (sub_skip rfl (sub_skip rfl (sub_skip rfl (Sub.refl _))))))))))))))))))))))
      · skip
        refine run_plain (id := 1) (ops := F32.o1) [(0, true), (1, false), (2, true), (3, false), (4, true), (5, true), (6, true), (7, false), (8, true), (9, false), (10, true), (11, true), (12, true), (13, false), (14, true), (15, false), (16, true), (17, true), (18, true), (19, true)] (by kernel_rfl) (by kernel_rfl) ?_
        refine yS (by kernel_rfl : opAt F32.o1 0 = some (some 5, .fieldAddr 50 (.tmp 2) 0, none)) rfl rfl (fun w' hS => val_fieldAddr (off := 0) (by kernel_rfl) rfl) ?_
        refine nS (by kernel_rfl : opAt F32.o1 1 = some (some 6, .load 3 (.tmp 5), none)) rfl rfl trivial (val_loadOwn hx.at_ (by kernel_rfl) rfl rfl) ?_
        refine yS (by kernel_rfl : opAt F32.o1 2 = some (some 7, .fieldAddr 50 (.tmp 3) 0, none)) rfl rfl (fun w' hS => val_fieldAddr (off := 0) (by kernel_rfl) rfl) ?_
        refine nS (by kernel_rfl : opAt F32.o1 3 = some (some 8, .load 3 (.tmp 7), none)) rfl rfl trivial (val_loadOwn hy.at_ (by kernel_rfl) rfl rfl) ?_
        refine yS (by kernel_rfl : opAt F32.o1 4 = some (some 9, .binOp .lss 3 (.tmp 6) (.tmp 8) 3, none)) rfl rfl (fun w' hS => val_F (val_lss rfl rfl) hA) ?_
        refine yS (by kernel_rfl : opAt F32.o1 5 = some (some 10, .move (.tmp 9), none)) rfl rfl (fun w' hS => val_move rfl) ?_
        refine yS (by kernel_rfl : opAt F32.o1 6 = some (some 11, .fieldAddr 50 (.tmp 2) 0, (some (5, false)))) rfl rfl (fun w' hS => val_fieldAddr (off := 0) (by kernel_rfl) rfl) ?_
        refine nS (by kernel_rfl : opAt F32.o1 7 = some (some 12, .load 3 (.tmp 11), (some (5, false)))) rfl rfl trivial (val_loadOwn hx.at_ (by kernel_rfl) rfl rfl) ?_
        refine yS (by kernel_rfl : opAt F32.o1 8 = some (some 13, .fieldAddr 50 (.tmp 3) 0, (some (5, false)))) rfl rfl (fun w' hS => val_fieldAddr (off := 0) (by kernel_rfl) rfl) ?_
        refine nS (by kernel_rfl : opAt F32.o1 9 = some (some 14, .load 3 (.tmp 13), (some (5, false)))) rfl rfl trivial (val_loadOwn hy.at_ (by kernel_rfl) rfl rfl) ?_
        refine yS (by kernel_rfl : opAt F32.o1 10 = some (some 15, .binOp .eql 3 (.tmp 12) (.tmp 14) 3, (some (5, false)))) rfl rfl (fun w' hS => val_F (val_eql rfl rfl) hB) ?_
        refine yS (by kernel_rfl : opAt F32.o1 11 = some (some 16, .move (.tmp 15), (some (5, false)))) rfl rfl (fun w' hS => val_move rfl) ?_
        refine pS (by kernel_rfl : opAt F32.o1 12 = some (some 17, .fieldAddr 50 (.tmp 2) 1, (some (11, true)))) rfl rfl ?_
        refine pW (by kernel_rfl : opAt F32.o1 13 = some (some 18, .load 3 (.tmp 17), (some (11, true)))) rfl rfl trivial ?_
        refine pS (by kernel_rfl : opAt F32.o1 14 = some (some 19, .fieldAddr 50 (.tmp 3) 1, (some (11, true)))) rfl rfl ?_
        refine pW (by kernel_rfl : opAt F32.o1 15 = some (some 20, .load 3 (.tmp 19), (some (11, true)))) rfl rfl trivial ?_
        refine pS (by kernel_rfl : opAt F32.o1 16 = some (some 21, .binOp .lss 3 (.tmp 18) (.tmp 20) 3, (some (11, true)))) rfl rfl ?_
        refine yS (by kernel_rfl : opAt F32.o1 17 = some (some 22, .pick (.tmp 16) (.tmp 21) (.const (.bool false)), (some (5, false)))) rfl rfl (fun w' hS => val_pick_f rfl rfl) ?_
        refine yS (by kernel_rfl : opAt F32.o1 18 = some (some 23, .pick (.tmp 10) (.const (.bool true)) (.tmp 22), none)) rfl rfl (fun w' hS => val_pick_f rfl rfl) ?_
        refine yS (by kernel_rfl : opAt F32.o1 19 = some (some 4, .assign (.tmp 23), none)) rfl rfl (fun w' hS => val_assign rfl) ?_
        exact Sch.nil (hcut _ _ _ (Stp.refl _ _ _) rfl (by unfold ltB; rw [decide_eq_false hA, decide_eq_false hB]; rfl) (sub_skip rfl (sub_skip rfl (sub_skip rfl (sub_skip rfl (sub_skip rfl (sub_skip rfl (sub_skip rfl (sub_skip rfl (sub_skip rfl (sub_skip rfl (sub_skip rfl (sub_skip rfl (sub_skip rfl (sub_skip rfl (sub_skip rfl (sub_skip rfl (sub_skip rfl (sub_skip rfl (sub_skip rfl (sub_skip rfl (Sub.refl _))))))))))))))))))))))
  intro w3 hs
  replace hF := hF.st hs
  replace hT := hT.trans hs (by simp)
  replace hx := hx.st hs (by first | decide | (simp <;> omega))
  replace hy := hy.st hs (by first | decide | (simp <;> omega))
  refine run_ret1 (by kernel_rfl) Try.func32 Try.results32 rfl ?_
  exact ⟨rfl, hT.out1 (by decide)⟩
namespace F15
noncomputable def c0 : Code := bodyOf Try.f15
noncomputable def c1 : Code := cl c0
noncomputable def o0 : Array Oper := rops c1
noncomputable def c2 : Code := cr c0
noncomputable def c3 : Code := cl c2
noncomputable def o1 : Array Oper := rops c3
noncomputable def c4 : Code := cr c2
noncomputable def c5 : Code := cl c4
noncomputable def c6 : Code := cl c5
noncomputable def o2 : Array Oper := rops c6
noncomputable def c7 : Code := cr c5
noncomputable def c8 : Code := cl c7
noncomputable def c9 : Code := cl c8
noncomputable def c10 : Code := cl c9
noncomputable def c11 : Code := cl c10
noncomputable def o3 : Array Oper := rops c11
noncomputable def c12 : Code := cr c10
noncomputable def c13 : Code := cl c12
noncomputable def c14 : Code := cr c12
noncomputable def c15 : Code := cr c9
noncomputable def c16 : Code := cl c15
noncomputable def c17 : Code := cl c16
noncomputable def c18 : Code := cl c17
noncomputable def o5 : Array Oper := rops c18
noncomputable def c19 : Code := cr c17
noncomputable def c20 : Code := cl c19
noncomputable def c21 : Code := cl c20
noncomputable def c22 : Code := cl c21
noncomputable def c23 : Code := cl c22
noncomputable def o6 : Array Oper := rops c23
noncomputable def c24 : Code := cr c22
noncomputable def c25 : Code := cl c24
noncomputable def c26 : Code := cr c24
noncomputable def c27 : Code := cr c21
noncomputable def c28 : Code := cl c27
noncomputable def c29 : Code := cl c28
noncomputable def c30 : Code := cl c29
noncomputable def o8 : Array Oper := rops c30
noncomputable def c31 : Code := cr c29
noncomputable def c32 : Code := cl c31
noncomputable def o9 : Array Oper := rops c32
noncomputable def c33 : Code := cr c31
noncomputable def c34 : Code := cl c33
noncomputable def c35 : Code := cl c34
noncomputable def c36 : Code := cl c35
noncomputable def c37 : Code := cl c36
noncomputable def c38 : Code := cl c37
noncomputable def o10 : Array Oper := rops c38
noncomputable def c39 : Code := cr c37
noncomputable def c40 : Code := cl c39
noncomputable def c41 : Code := cr c39
noncomputable def c42 : Code := cr c36
noncomputable def c43 : Code := cl c42
noncomputable def o11 : Array Oper := rops c43
noncomputable def c44 : Code := cr c33
noncomputable def c45 : Code := cl c44
noncomputable def c46 : Code := cl c45
noncomputable def o12 : Array Oper := rops c46
noncomputable def c47 : Code := cr c45
noncomputable def c48 : Code := cl c47
noncomputable def c49 : Code := cr c47
noncomputable def c50 : Code := cr c44
noncomputable def o13 : Array Oper := rops c50
noncomputable def c51 : Code := cr c27
noncomputable def o7 : Array Oper := rops c51
noncomputable def c52 : Code := cr c15
noncomputable def o4 : Array Oper := rops c52
noncomputable def c53 : Code := cr c4
noncomputable def c54 : Code := cl c53
noncomputable def o14 : Array Oper := rops c54
noncomputable def c55 : Code := cr c53
end F15
/-- The document's 'Atoms'. -/
theorem refAtoms_ok {w₀ : World} {C : Nat → Nat} {ks : List Key} {vk : Value} (hF : Lim w₀ C) (hk : RV w₀ (Mc C) ks vk) (hs0 : KeysSm ks) : Calls Try.prog 15 #[vk] w₀ (Ret fun v w' => Stp [] w₀ C w' C ∧ RV w' (Mc C) (atomsS ks) v) := by
  have hF0 := hF
  have hT := Stp.refl [2, 3, 4, 5, 6, 7, 8, 9] w₀ (col1 C)
  replace hF := hF.col1
  replace hk : RV w₀ (Mc (col1 C)) ks vk := by rw [Mc_col1]; exact hk
  refine calls_start (c := F15.c0) (N := 70) [vk] Try.func15 (by kernel_rfl) (by kernel_rfl) (by kernel_rfl) ?_
  show Run _ _ _ _ [(0, vk)] _ _
  refine run_seq (x := F15.c1) (y := F15.c2) (by kernel_rfl) ?_
  refine run_plain (id := 0) (ops := F15.o0) [(0, true)] (by kernel_rfl) (by kernel_rfl) ?_
  refine yS (by kernel_rfl : opAt F15.o0 0 = some (some 2, .assign (.const (.slice none 0 0)), none)) rfl rfl (fun w' hS => val_assign rfl) ?_
  refine Sch.nil ?_
  refine run_seq (x := F15.c3) (y := F15.c4) (by kernel_rfl) ?_
  refine run_plain (id := 1) (ops := F15.o1) [(0, true)] (by kernel_rfl) (by kernel_rfl) ?_
  refine yS (by kernel_rfl : opAt F15.o1 0 = some (some 3, .assign (.const (.slice none 0 0)), none)) rfl rfl (fun w' hS => val_assign rfl) ?_
  refine Sch.nil ?_
  refine run_seq (x := F15.c5) (y := F15.c53) (by kernel_rfl) ?_
  refine run_seq (x := F15.c6) (y := F15.c7) (by kernel_rfl) ?_
  refine run_plain (id := 2) (ops := F15.o2) [(0, true)] (by kernel_rfl) (by kernel_rfl) ?_
  refine yS (by kernel_rfl : opAt F15.o2 0 = some (some 4, .assign (.const (.int .i64 0)), none)) rfl rfl (fun w' hS => val_assign rfl) ?_
  refine Sch.nil ?_
  refine run_block (x := F15.c8) (id := 0) (by kernel_rfl) ?_
  
  refine run_loop (ι := Nat × Value × (Nat → Nat)) (I := fun x w => x.1 ≤ ks.length ∧ Lim w x.2.2 ∧ Stp [2, 3, 4, 5, 6, 7, 8, 9] w₀ (col1 C) w x.2.2 ∧ RV w (Mc x.2.2) ks vk ∧ RV w (Mc x.2.2) (refA (compsS (ks.take x.1))) x.2.1) (e := fun x => [(0, vk), (3, x.2.1), (4, .int .i64 x.1)]) (m := fun x => ks.length - x.1) (x₀ := (0, .slice none 0 0, col1 C)) (body := F15.c9) (by kernel_rfl) (sub_cons 0 rfl rfl (sub_cons 3 rfl rfl (sub_cons 4 rfl rfl (sub_nil _)))) ?_ ?_
  · exact ⟨Nat.zero_le _, hF, hT, hk, rv_nil⟩
  intro ⟨i, vo, C1⟩ w1 hI next
  obtain ⟨hi, hF, hT, hk, ho⟩ := hI
  try simp only at hi hF hT hk ho
  have next1 := next
  clear next
  show Run _ _ _ _ [(0, vk), (3, vo), (4, .int .i64 i)] _ _
  have hle := hk.le
  have hcl := hs0.len i
  have hcl1 := hs0.len (i + 1)
  refine run_seq (x := F15.c10) (y := F15.c15) (by kernel_rfl) ?_
  refine run_seq (x := F15.c11) (y := F15.c12) (by kernel_rfl) ?_
  refine run_plain (id := 3) (ops := F15.o3) [(0, true), (1, true), (2, true), (3, true)] (by kernel_rfl) (by kernel_rfl) ?_
  refine yS (by kernel_rfl : opAt F15.o3 0 = some (some 8, .move (.tmp 4), none)) rfl rfl (fun w' hS => val_move rfl) ?_
  refine yS (by kernel_rfl : opAt F15.o3 1 = some (some 9, .move (.tmp 0), none)) rfl rfl (fun w' hS => val_move rfl) ?_
  refine yS (by kernel_rfl : opAt F15.o3 2 = some (some 10, .call { callee := .builtin .len, args := #[(.tmp 9)], argTypes := #[23] }, none)) rfl rfl (fun w' hS => hk.lenV rfl Try.underlying23 w' ) ?_
  refine yS (by kernel_rfl : opAt F15.o3 3 = some (some 11, .binOp .lss 3 (.tmp 8) (.tmp 10) 3, none)) rfl rfl (fun w' hS => val_lss rfl rfl) ?_
  refine Sch.nil ?_
  refine run_if (x := F15.c13) (y := F15.c14) (o := .tmp 11) (by kernel_rfl) rfl (fun h11 => ?_) (fun h11 => ?_)
  · skip
    have hil : i < ks.length := by omega
    rw [compsS_take hil, List.length_append] at hcl1
    refine run_skip (by kernel_rfl) ?_
    refine run_seq (x := F15.c16) (y := F15.c52) (by kernel_rfl) ?_
    refine run_block (x := F15.c17) (id := 1) (by kernel_rfl) ?_
    refine run_seq (x := F15.c18) (y := F15.c19) (by kernel_rfl) ?_
    refine run_plain (id := 5) (ops := F15.o5) [(0, true)] (by kernel_rfl) (by kernel_rfl) ?_
    refine yS (by kernel_rfl : opAt F15.o5 0 = some (some 5, .assign (.const (.int .i64 0)), none)) rfl rfl (fun w' hS => val_assign rfl) ?_
    refine Sch.nil ?_
    refine run_block (x := F15.c20) (id := 2) (by kernel_rfl) ?_
    
    refine run_loop (ι := Nat × Value × (Nat → Nat)) (I := fun x w => x.1 ≤ ks[i].comps.length ∧ Lim w x.2.2 ∧ Stp [2, 3, 4, 5, 6, 7, 8, 9] w₀ (col1 C) w x.2.2 ∧ RV w (Mc x.2.2) ks vk ∧ RV w (Mc x.2.2) (refA (compsS (ks.take i) ++ ks[i].comps.take x.1)) x.2.1) (e := fun x => [(0, vk), (3, x.2.1), (4, .int .i64 i), (5, .int .i64 x.1)]) (m := fun x => ks[i].comps.length - x.1) (x₀ := (0, vo, C1)) (body := F15.c21) (by kernel_rfl) (sub_cons 0 rfl rfl (sub_cons 3 rfl rfl (sub_cons 4 rfl rfl (sub_cons 5 rfl rfl (sub_nil _))))) ?_ ?_
    · exact ⟨Nat.zero_le _, hF, hT, hk, by simp only [List.take_zero, List.append_nil]; exact ho⟩
    intro ⟨j, vo, C2⟩ w2 hI next
    obtain ⟨hj, hF, hT, hk, ho⟩ := hI
    try simp only at hj hF hT hk ho
    have next2 := next
    clear next
    show Run _ _ _ _ [(0, vk), (3, vo), (4, .int .i64 i), (5, .int .i64 j)] _ _
    obtain ⟨os, hos⟩ : ∃ os, os = refA (compsS (ks.take i) ++ ks[i].comps.take j) := ⟨_, rfl⟩
    rw [← hos] at ho
    have hol : os.length ≤ 144 := by
      have h1 := refA_len (compsS (ks.take i) ++ ks[i].comps.take j)
      rw [← hos, List.length_append, List.length_take] at h1; omega
    refine run_seq (x := F15.c22) (y := F15.c27) (by kernel_rfl) ?_
    refine run_seq (x := F15.c23) (y := F15.c24) (by kernel_rfl) ?_
    refine run_plain (id := 6) (ops := F15.o6) [(0, true), (1, true), (2, true), (3, true), (4, true), (5, false), (6, true), (7, true)] (by kernel_rfl) (by kernel_rfl) ?_
    refine yS (by kernel_rfl : opAt F15.o6 0 = some (some 14, .move (.tmp 5), none)) rfl rfl (fun w' hS => val_move rfl) ?_
    refine yS (by kernel_rfl : opAt F15.o6 1 = some (some 15, .move (.tmp 0), none)) rfl rfl (fun w' hS => val_move rfl) ?_
    refine yS (by kernel_rfl : opAt F15.o6 2 = some (some 16, .move (.tmp 4), none)) rfl rfl (fun w' hS => val_move rfl) ?_
    refine iS (e := 28) (by kernel_rfl : opAt F15.o6 3 = some (some 17, .indexAddr 23 (.tmp 15) (.tmp 16), none)) rfl rfl hk rfl (by kernel_rfl) rfl (by omega) (by omega) ?_
    intro b17 o17 h17
    try simp only [Int.toNat_natCast] at h17
    have h18 := RA.comps h17
    refine yS (by kernel_rfl : opAt F15.o6 4 = some (some 18, .fieldAddr 28 (.tmp 17) 0, none)) rfl rfl (fun w' hS => val_fieldAddr (off := 0) (by kernel_rfl) rfl) ?_
    refine lN (by kernel_rfl : opAt F15.o6 5 = some (some 19, .load 26 (.tmp 18), none)) rfl rfl trivial h18 (by kernel_rfl) rfl rfl ?_
    intro v19 g19
    have hcl2 := g19.le
    refine yS (by kernel_rfl : opAt F15.o6 6 = some (some 20, .call { callee := .builtin .len, args := #[(.tmp 19)], argTypes := #[26] }, none)) rfl rfl (fun w' hS => g19.lenV rfl Try.underlying26 w' ) ?_
    refine yS (by kernel_rfl : opAt F15.o6 7 = some (some 21, .binOp .lss 3 (.tmp 14) (.tmp 20) 3, none)) rfl rfl (fun w' hS => val_lss rfl rfl) ?_
    refine Sch.nil ?_
    refine run_if (x := F15.c25) (y := F15.c26) (o := .tmp 21) (by kernel_rfl) rfl (fun h21 => ?_) (fun h21 => ?_)
    · skip
      have hjl : j < ks[i].comps.length := by omega
      obtain ⟨c, hc⟩ : ∃ c, c = ks[i].comps[j] := ⟨_, rfl⟩
      have hsn : refA (compsS (ks.take i) ++ ks[i].comps.take (j + 1)) = insC os c := by rw [List.take_succ_eq_append_getElem hjl, ← List.append_assoc, refA_snoc, ← hos, ← hc]
      refine run_skip (by kernel_rfl) ?_
      refine run_seq (x := F15.c28) (y := F15.c51) (by kernel_rfl) ?_
      refine run_block (x := F15.c29) (id := 3) (by kernel_rfl) ?_
      refine run_seq (x := F15.c30) (y := F15.c31) (by kernel_rfl) ?_
      refine run_plain (id := 8) (ops := F15.o8) [(0, true), (1, true), (2, true), (3, true), (4, false), (5, true), (6, true), (7, false), (8, false), (9, false)] (by kernel_rfl) (by kernel_rfl) ?_
      refine yS (by kernel_rfl : opAt F15.o8 0 = some (some 24, .move (.tmp 0), none)) rfl rfl (fun w' hS => val_move rfl) ?_
      refine yS (by kernel_rfl : opAt F15.o8 1 = some (some 25, .move (.tmp 4), none)) rfl rfl (fun w' hS => val_move rfl) ?_
      refine iS (e := 28) (by kernel_rfl : opAt F15.o8 2 = some (some 26, .indexAddr 23 (.tmp 24) (.tmp 25), none)) rfl rfl hk rfl (by kernel_rfl) rfl (by omega) (by omega) ?_
      intro b26 o26 h26
      try simp only [Int.toNat_natCast] at h26
      have h27 := RA.comps h26
      refine yS (by kernel_rfl : opAt F15.o8 3 = some (some 27, .fieldAddr 28 (.tmp 26) 0, none)) rfl rfl (fun w' hS => val_fieldAddr (off := 0) (by kernel_rfl) rfl) ?_
      refine lN (by kernel_rfl : opAt F15.o8 4 = some (some 28, .load 26 (.tmp 27), none)) rfl rfl trivial h27 (by kernel_rfl) rfl rfl ?_
      intro v28 g28
      refine yS (by kernel_rfl : opAt F15.o8 5 = some (some 29, .move (.tmp 5), none)) rfl rfl (fun w' hS => val_move rfl) ?_
      refine iS (e := 50) (by kernel_rfl : opAt F15.o8 6 = some (some 30, .indexAddr 26 (.tmp 28) (.tmp 29), none)) rfl rfl g28 rfl (by kernel_rfl) rfl (by omega) (by omega) ?_
      intro b30 o30 h30
      try simp only [Int.toNat_natCast] at h30
      refine lNA (by kernel_rfl : opAt F15.o8 7 = some (some 31, .load 50 (.tmp 30), none)) rfl rfl trivial h30 (by kernel_rfl) (by kernel_rfl) rfl rfl ?_
      intro v31 g31
      obtain rfl := rv_couple.1 g31
      rw [← hc]
      refine aS (by kernel_rfl : opAt F15.o8 8 = some (some 6, .alloc 50, none)) rfl rfl (a_alloc (cs := [.int .i64 0, .int .i64 0]) hF 4 (by kernel_rfl)) ?_
      rintro _ w3 ⟨Cw3, bw3, rfl, hs, hx, hF⟩
      refine ⟨trivial, ?_⟩
      replace hT := hT.trans hs (by simp)
      replace hk := hk.st hs (by first | decide | (simp <;> omega))
      replace ho := ho.st hs (by first | decide | (simp <;> omega))
      replace h17 := h17.st hs (by first | decide | (simp <;> omega))
      replace h18 := h18.st hs (by first | decide | (simp <;> omega))
      replace g19 := g19.st hs (by first | decide | (simp <;> omega))
      replace h26 := h26.st hs (by first | decide | (simp <;> omega))
      replace h27 := h27.st hs (by first | decide | (simp <;> omega))
      replace g28 := g28.st hs (by first | decide | (simp <;> omega))
      replace h30 := h30.st hs (by first | decide | (simp <;> omega))
      refine aN (by kernel_rfl : opAt F15.o8 9 = some (none, .store 50 (.tmp 6) (.tmp 31), none)) rfl (a_storeAll (vs := [.int .i64 (c).a, .int .i64 (c).b]) (n := 2) rfl rfl (by kernel_rfl) rfl rfl (by intro u hu; simp only [List.mem_cons, List.not_mem_nil, or_false] at hu; rcases hu with rfl | rfl <;> rfl) hx rfl) ?_
      rintro _ w4 ⟨rfl, hs, hx⟩
      refine ⟨trivial, ?_⟩
      replace hF := hF.st hs
      replace hT := hT.trans hs (by simp)
      replace hk := hk.st hs (by first | decide | (simp <;> omega))
      replace ho := ho.st hs (by first | decide | (simp <;> omega))
      replace h17 := h17.st hs (by first | decide | (simp <;> omega))
      replace h18 := h18.st hs (by first | decide | (simp <;> omega))
      replace g19 := g19.st hs (by first | decide | (simp <;> omega))
      replace h26 := h26.st hs (by first | decide | (simp <;> omega))
      replace h27 := h27.st hs (by first | decide | (simp <;> omega))
      replace g28 := g28.st hs (by first | decide | (simp <;> omega))
      replace h30 := h30.st hs (by first | decide | (simp <;> omega))
      refine Sch.nil ?_
      refine run_seq (x := F15.c32) (y := F15.c33) (by kernel_rfl) ?_
      refine run_plain (id := 9) (ops := F15.o9) [(0, true)] (by kernel_rfl) (by kernel_rfl) ?_
      refine yS (by kernel_rfl : opAt F15.o9 0 = some (some 7, .assign (.const (.int .i64 0)), none)) rfl rfl (fun w' hS => val_assign rfl) ?_
      refine Sch.nil ?_
      refine run_seq (x := F15.c34) (y := F15.c44) (by kernel_rfl) ?_
      refine run_block (x := F15.c35) (id := 4) (by kernel_rfl) ?_
      
      refine run_loop (ι := Nat × (Nat → Nat)) (I := fun x w => x.1 ≤ os.length ∧ (∀ p (hp : p < x.1) (h : p < os.length), ltB os[p] c = true) ∧ Lim w x.2 ∧ Stp [2, 3, 4, 5, 6, 7, 8, 9] w₀ (col1 C) w x.2 ∧ RV w (Mc x.2) ks vk ∧ RV w (Mc x.2) os vo ∧ OwnB w x.2 4 bw3 (.cells [.int .i64 c.a, .int .i64 c.b].toArray 50)) (e := fun x => [(0, vk), (3, vo), (4, .int .i64 i), (5, .int .i64 j), (6, .pointer (some ⟨bw3, 0, none⟩)), (7, .int .i64 x.1)]) (m := fun x => os.length - x.1) (x₀ := (0, Cw3)) (body := F15.c36) (by kernel_rfl) (sub_cons 0 rfl rfl (sub_cons 3 rfl rfl (sub_cons 4 rfl rfl (sub_cons 5 rfl rfl (sub_cons 6 rfl rfl (sub_cons 7 rfl rfl (sub_nil _))))))) ?_ ?_
      · exact ⟨Nat.zero_le _, fun p hp => by simp at hp, hF, hT, hk, ho, hx⟩
      intro ⟨q, C3⟩ w5 hI next
      obtain ⟨hq, hb, hF, hT, hk, ho, hx⟩ := hI
      try simp only at hq hb hF hT hk ho hx
      have next3 := next
      clear next
      show Run _ _ _ _ [(0, vk), (3, vo), (4, .int .i64 i), (5, .int .i64 j), (6, .pointer (some ⟨bw3, 0, none⟩)), (7, .int .i64 q)] _ _
      refine run_seq (x := F15.c37) (y := F15.c42) (by kernel_rfl) ?_
      refine run_seq (x := F15.c38) (y := F15.c39) (by kernel_rfl) ?_
      refine run_cut 43 ((if h : q < os.length then ltB os[q] c else false)) (C3) ?_ ?_
      · intro hcut
        by_cases hA : (q : Int) < os.length
        · skip
          refine run_draw (id := 10) (ops := F15.o10) [] (C3) [(0, true), (1, true), (2, true), (3, true), (4, true), (5, true), (6, true), (7, true), (8, true), (9, true), (10, false), (11, true)] Try_mixed (by kernel_rfl) (by kernel_rfl) (by kernel_rfl) ?_
          intro w6 hs
          replace hF := hF.st hs
          replace hT := hT.trans hs (by simp)
          replace hk := hk.st hs (by first | decide | (simp <;> omega))
          replace ho := ho.st hs (by first | decide | (simp <;> omega))
          replace hx := hx.st hs (by first | decide | (simp <;> omega))
          have hcs := hs
          have hR := Stp.refl [] w6 (C3)
          refine yS (by kernel_rfl : opAt F15.o10 0 = some (some 32, .move (.tmp 7), none)) rfl rfl (fun w' hS => val_move rfl) ?_
          refine yS (by kernel_rfl : opAt F15.o10 1 = some (some 33, .move (.tmp 3), none)) rfl rfl (fun w' hS => val_move rfl) ?_
          refine yS (by kernel_rfl : opAt F15.o10 2 = some (some 34, .call { callee := .builtin .len, args := #[(.tmp 33)], argTypes := #[26] }, none)) rfl rfl (fun w' hS => ho.lenV rfl Try.underlying26 w' ) ?_
          refine yS (by kernel_rfl : opAt F15.o10 3 = some (some 35, .binOp .lss 3 (.tmp 32) (.tmp 34) 3, none)) rfl rfl (fun w' hS => val_T (val_lss rfl rfl) hA) ?_
          refine yS (by kernel_rfl : opAt F15.o10 4 = some (some 36, .move (.tmp 35), none)) rfl rfl (fun w' hS => val_move rfl) ?_
          refine yS (by kernel_rfl : opAt F15.o10 5 = some (some 37, .move (.tmp 3), (some (4, true)))) rfl rfl (fun w' hS => val_move rfl) ?_
          refine yS (by kernel_rfl : opAt F15.o10 6 = some (some 38, .move (.tmp 7), (some (4, true)))) rfl rfl (fun w' hS => val_move rfl) ?_
          have hql : q < os.length := by omega
          refine iS (e := 50) (by kernel_rfl : opAt F15.o10 7 = some (some 39, .indexAddr 26 (.tmp 37) (.tmp 38), (some (4, true)))) rfl rfl ho rfl (by kernel_rfl) rfl (by omega) (by omega) ?_
          intro b39 o39 h39
          try simp only [Int.toNat_natCast] at h39
          refine lSA (by kernel_rfl : opAt F15.o10 8 = some (some 40, .load 50 (.tmp 39), (some (4, true)))) rfl rfl (fun w' hS => h39.stay hS (by decide)) h39 (by kernel_rfl) (by kernel_rfl) rfl rfl ?_
          intro v40 g40
          obtain rfl := rv_couple.1 g40
          refine yS (by kernel_rfl : opAt F15.o10 9 = some (some 41, .load 50 (.tmp 6), (some (4, true)))) rfl rfl (fun w' hS => val_loadOwnAgg (n := 2) (hx.stay hS (by decide)) (by kernel_rfl) (by kernel_rfl) rfl rfl rfl) ?_
          refine cS (by kernel_rfl : opAt F15.o10 10 = some (some 42, .call { callee := .value (.func 32), args := #[(.tmp 40), (.tmp 41)], argTypes := #[50, 50] }, (some (4, true)))) rfl rfl (ent Try.call32 rfl) (before_ok (x := os[q]) (y := c) hF) ?_
          rintro vw7 w7 ⟨rfl, hs⟩
          refine ⟨(hR.trans hs (by simp)).ext, ?_⟩
          replace hF := hF.st hs
          replace hT := hT.trans hs (by simp)
          replace hk := hk.st hs (by first | decide | (simp <;> omega))
          replace ho := ho.st hs (by first | decide | (simp <;> omega))
          replace hx := hx.st hs (by first | decide | (simp <;> omega))
          replace hcs := hcs.trans hs (by simp)
          replace hR := hR.trans hs (by simp)
          replace h39 := h39.st hs (by first | decide | (simp <;> omega))
          replace g40 := g40.st hs (by first | decide | (simp <;> omega))
          refine yS (by kernel_rfl : opAt F15.o10 11 = some (some 43, .pick (.tmp 36) (.tmp 42) (.const (.bool false)), none)) rfl rfl (fun w' hS => val_pick_t rfl rfl) ?_
          exact Sch.nil (hcut _ _ _ hcs rfl (by rw [dif_pos (by omega)]) (sub_skip rfl (sub_skip rfl (sub_skip rfl (sub_skip rfl (sub_skip rfl (sub_skip rfl (sub_skip rfl (sub_skip rfl (sub_skip rfl (sub_skip rfl (sub_skip rfl (sub_skip rfl (Sub.refl _))))))))))))))
        · skip
          refine run_draw (id := 10) (ops := F15.o10) [] (C3) [(0, true), (1, true), (2, true), (3, true), (4, true), (5, true), (6, true), (7, true), (8, true), (9, true), (10, false), (11, true)] Try_mixed (by kernel_rfl) (by kernel_rfl) (by kernel_rfl) ?_
          intro w8 hs
          replace hF := hF.st hs
          replace hT := hT.trans hs (by simp)
          replace hk := hk.st hs (by first | decide | (simp <;> omega))
          replace ho := ho.st hs (by first | decide | (simp <;> omega))
          replace hx := hx.st hs (by first | decide | (simp <;> omega))
          have hcs := hs
          have hR := Stp.refl [] w8 (C3)
          refine yS (by kernel_rfl : opAt F15.o10 0 = some (some 32, .move (.tmp 7), none)) rfl rfl (fun w' hS => val_move rfl) ?_
          refine yS (by kernel_rfl : opAt F15.o10 1 = some (some 33, .move (.tmp 3), none)) rfl rfl (fun w' hS => val_move rfl) ?_
          refine yS (by kernel_rfl : opAt F15.o10 2 = some (some 34, .call { callee := .builtin .len, args := #[(.tmp 33)], argTypes := #[26] }, none)) rfl rfl (fun w' hS => ho.lenV rfl Try.underlying26 w' ) ?_
          refine yS (by kernel_rfl : opAt F15.o10 3 = some (some 35, .binOp .lss 3 (.tmp 32) (.tmp 34) 3, none)) rfl rfl (fun w' hS => val_F (val_lss rfl rfl) hA) ?_
          refine yS (by kernel_rfl : opAt F15.o10 4 = some (some 36, .move (.tmp 35), none)) rfl rfl (fun w' hS => val_move rfl) ?_
          refine pS (by kernel_rfl : opAt F15.o10 5 = some (some 37, .move (.tmp 3), (some (4, true)))) rfl rfl ?_
          refine pS (by kernel_rfl : opAt F15.o10 6 = some (some 38, .move (.tmp 7), (some (4, true)))) rfl rfl ?_
          refine pS (by kernel_rfl : opAt F15.o10 7 = some (some 39, .indexAddr 26 (.tmp 37) (.tmp 38), (some (4, true)))) rfl rfl ?_
          refine pS (by kernel_rfl : opAt F15.o10 8 = some (some 40, .load 50 (.tmp 39), (some (4, true)))) rfl rfl ?_
          refine pS (by kernel_rfl : opAt F15.o10 9 = some (some 41, .load 50 (.tmp 6), (some (4, true)))) rfl rfl ?_
          refine pW (by kernel_rfl : opAt F15.o10 10 = some (some 42, .call { callee := .value (.func 32), args := #[(.tmp 40), (.tmp 41)], argTypes := #[50, 50] }, (some (4, true)))) rfl rfl hR.ext ?_
          refine yS (by kernel_rfl : opAt F15.o10 11 = some (some 43, .pick (.tmp 36) (.tmp 42) (.const (.bool false)), none)) rfl rfl (fun w' hS => val_pick_f rfl rfl) ?_
          exact Sch.nil (hcut _ _ _ hcs rfl (by rw [dif_neg (by omega)]) (sub_skip rfl (sub_skip rfl (sub_skip rfl (sub_skip rfl (sub_skip rfl (sub_skip rfl (sub_skip rfl (sub_skip rfl (sub_skip rfl (sub_skip rfl (sub_skip rfl (sub_skip rfl (Sub.refl _))))))))))))))
      intro w9 hs
      replace hF := hF.st hs
      replace hT := hT.trans hs (by simp)
      replace hk := hk.st hs (by first | decide | (simp <;> omega))
      replace ho := ho.st hs (by first | decide | (simp <;> omega))
      replace hx := hx.st hs (by first | decide | (simp <;> omega))
      refine run_cond (x := F15.c40) (y := F15.c41) (o := .tmp 43) (by kernel_rfl) rfl (fun h43 => ?_) (fun h43 => ?_)
      · skip
        have hql : q < os.length := by
          by_cases h : q < os.length
          · exact h
          · rw [dif_neg h] at h43; cases h43
        rw [dif_pos hql] at h43
        refine run_skip (by kernel_rfl) ?_
        refine run_block (x := F15.c43) (id := 5) (by kernel_rfl) ?_
        refine run_plain (id := 11) (ops := F15.o11) [(0, true), (1, true), (2, true)] (by kernel_rfl) (by kernel_rfl) ?_
        refine yS (by kernel_rfl : opAt F15.o11 0 = some (some 44, .move (.tmp 7), none)) rfl rfl (fun w' hS => val_move rfl) ?_
        refine yS (by kernel_rfl : opAt F15.o11 1 = some (some 45, .binOp .add 3 (.tmp 44) (.const (.int .i64 1)) 3, none)) rfl rfl (fun w' hS => val_addi rfl rfl (by omega) (by omega)) ?_
        refine yS (by kernel_rfl : opAt F15.o11 2 = some (some 7, .assign (.tmp 45), none)) rfl rfl (fun w' hS => val_assign rfl) ?_
        refine Sch.nil ?_
        refine run_inBlock ?_
        refine kp (sub_cons 0 rfl rfl (sub_cons 3 rfl rfl (sub_cons 4 rfl rfl (sub_cons 5 rfl rfl (sub_cons 6 rfl rfl (sub_cons 7 rfl (eq_int (by simp)) (sub_nil _))))))) (next3 (q + 1, C3) _ ⟨(by first | omega | (simp only; omega)), (fun p hp h => by
            by_cases e : p = q
            · subst e; exact h43
            · exact hb p (by simp only at hp; omega) h), hF, hT, hk, ho, hx⟩ (by first | omega | (simp only; omega)))
      · skip
        have hnb : ∀ h : q < os.length, ltB os[q] c = false := fun h => by rw [dif_pos h] at h43; exact h43
        have hins := insC_at hq hb hnb
        refine run_exit (id := 4) (by kernel_rfl) rfl ?_
        refine run_seq (x := F15.c45) (y := F15.c50) (by kernel_rfl) ?_
        refine run_seq (x := F15.c46) (y := F15.c47) (by kernel_rfl) ?_
        refine run_cut 57 (decide (∃ h : q < os.length, os[q] = c)) (C3) ?_ ?_
        · intro hcut
          by_cases hA : (q : Int) < os.length
          · skip
            refine run_draw (id := 12) (ops := F15.o12) [] (C3) [(0, true), (1, true), (2, true), (3, true), (4, true), (5, true), (6, true), (7, true), (8, true), (9, true), (10, true), (11, true)] Try_mixed (by kernel_rfl) (by kernel_rfl) (by kernel_rfl) ?_
            intro w10 hs
            replace hF := hF.st hs
            replace hT := hT.trans hs (by simp)
            replace hk := hk.st hs (by first | decide | (simp <;> omega))
            replace ho := ho.st hs (by first | decide | (simp <;> omega))
            replace hx := hx.st hs (by first | decide | (simp <;> omega))
            have hcs := hs
            refine yS (by kernel_rfl : opAt F15.o12 0 = some (some 46, .move (.tmp 7), none)) rfl rfl (fun w' hS => val_move rfl) ?_
            refine yS (by kernel_rfl : opAt F15.o12 1 = some (some 47, .move (.tmp 3), none)) rfl rfl (fun w' hS => val_move rfl) ?_
            refine yS (by kernel_rfl : opAt F15.o12 2 = some (some 48, .call { callee := .builtin .len, args := #[(.tmp 47)], argTypes := #[26] }, none)) rfl rfl (fun w' hS => ho.lenV rfl Try.underlying26 w' ) ?_
            refine yS (by kernel_rfl : opAt F15.o12 3 = some (some 49, .binOp .lss 3 (.tmp 46) (.tmp 48) 3, none)) rfl rfl (fun w' hS => val_T (val_lss rfl rfl) hA) ?_
            refine yS (by kernel_rfl : opAt F15.o12 4 = some (some 50, .move (.tmp 49), none)) rfl rfl (fun w' hS => val_move rfl) ?_
            refine yS (by kernel_rfl : opAt F15.o12 5 = some (some 51, .move (.tmp 3), (some (4, true)))) rfl rfl (fun w' hS => val_move rfl) ?_
            refine yS (by kernel_rfl : opAt F15.o12 6 = some (some 52, .move (.tmp 7), (some (4, true)))) rfl rfl (fun w' hS => val_move rfl) ?_
            have hql : q < os.length := by omega
            refine iS (e := 50) (by kernel_rfl : opAt F15.o12 7 = some (some 53, .indexAddr 26 (.tmp 51) (.tmp 52), (some (4, true)))) rfl rfl ho rfl (by kernel_rfl) rfl (by omega) (by omega) ?_
            intro b53 o53 h53
            try simp only [Int.toNat_natCast] at h53
            refine lSA (by kernel_rfl : opAt F15.o12 8 = some (some 54, .load 50 (.tmp 53), (some (4, true)))) rfl rfl (fun w' hS => h53.stay hS (by decide)) h53 (by kernel_rfl) (by kernel_rfl) rfl rfl ?_
            intro v54 g54
            obtain rfl := rv_couple.1 g54
            refine yS (by kernel_rfl : opAt F15.o12 9 = some (some 55, .load 50 (.tmp 6), (some (4, true)))) rfl rfl (fun w' hS => val_loadOwnAgg (n := 2) (hx.stay hS (by decide)) (by kernel_rfl) (by kernel_rfl) rfl rfl rfl) ?_
            refine yS (by kernel_rfl : opAt F15.o12 10 = some (some 56, .binOp .eql 50 (.tmp 54) (.tmp 55) 50, (some (4, true)))) rfl rfl (fun w' hS => val_eqC (a := os[q]) (b := c) Try.underlying50 (by decide) (by decide) (by kernel_rfl) Try.underlying3 rfl rfl) ?_
            refine yS (by kernel_rfl : opAt F15.o12 11 = some (some 57, .pick (.tmp 50) (.tmp 56) (.const (.bool false)), none)) rfl rfl (fun w' hS => val_pick_t rfl rfl) ?_
            exact Sch.nil (hcut _ _ _ hcs rfl (by congr 1; apply decide_eq_decide.2; exact ⟨fun e => ⟨by omega, e⟩, fun ⟨_, e⟩ => e⟩) (sub_skip rfl (sub_skip rfl (sub_skip rfl (sub_skip rfl (sub_skip rfl (sub_skip rfl (sub_skip rfl (sub_skip rfl (sub_skip rfl (sub_skip rfl (sub_skip rfl (sub_skip rfl (Sub.refl _))))))))))))))
          · skip
            refine run_draw (id := 12) (ops := F15.o12) [] (C3) [(0, true), (1, true), (2, true), (3, true), (4, true), (5, true), (6, true), (7, true), (8, true), (9, true), (10, true), (11, true)] Try_mixed (by kernel_rfl) (by kernel_rfl) (by kernel_rfl) ?_
            intro w11 hs
            replace hF := hF.st hs
            replace hT := hT.trans hs (by simp)
            replace hk := hk.st hs (by first | decide | (simp <;> omega))
            replace ho := ho.st hs (by first | decide | (simp <;> omega))
            replace hx := hx.st hs (by first | decide | (simp <;> omega))
            have hcs := hs
            refine yS (by kernel_rfl : opAt F15.o12 0 = some (some 46, .move (.tmp 7), none)) rfl rfl (fun w' hS => val_move rfl) ?_
            refine yS (by kernel_rfl : opAt F15.o12 1 = some (some 47, .move (.tmp 3), none)) rfl rfl (fun w' hS => val_move rfl) ?_
            refine yS (by kernel_rfl : opAt F15.o12 2 = some (some 48, .call { callee := .builtin .len, args := #[(.tmp 47)], argTypes := #[26] }, none)) rfl rfl (fun w' hS => ho.lenV rfl Try.underlying26 w' ) ?_
            refine yS (by kernel_rfl : opAt F15.o12 3 = some (some 49, .binOp .lss 3 (.tmp 46) (.tmp 48) 3, none)) rfl rfl (fun w' hS => val_F (val_lss rfl rfl) hA) ?_
            refine yS (by kernel_rfl : opAt F15.o12 4 = some (some 50, .move (.tmp 49), none)) rfl rfl (fun w' hS => val_move rfl) ?_
            refine pS (by kernel_rfl : opAt F15.o12 5 = some (some 51, .move (.tmp 3), (some (4, true)))) rfl rfl ?_
            refine pS (by kernel_rfl : opAt F15.o12 6 = some (some 52, .move (.tmp 7), (some (4, true)))) rfl rfl ?_
            refine pS (by kernel_rfl : opAt F15.o12 7 = some (some 53, .indexAddr 26 (.tmp 51) (.tmp 52), (some (4, true)))) rfl rfl ?_
            refine pS (by kernel_rfl : opAt F15.o12 8 = some (some 54, .load 50 (.tmp 53), (some (4, true)))) rfl rfl ?_
            refine pS (by kernel_rfl : opAt F15.o12 9 = some (some 55, .load 50 (.tmp 6), (some (4, true)))) rfl rfl ?_
            refine pS (by kernel_rfl : opAt F15.o12 10 = some (some 56, .binOp .eql 50 (.tmp 54) (.tmp 55) 50, (some (4, true)))) rfl rfl ?_
            refine yS (by kernel_rfl : opAt F15.o12 11 = some (some 57, .pick (.tmp 50) (.tmp 56) (.const (.bool false)), none)) rfl rfl (fun w' hS => val_pick_f rfl rfl) ?_
            exact Sch.nil (hcut _ _ _ hcs rfl (by rw [decide_eq_false (fun ⟨h, _⟩ => hA (by omega))]) (sub_skip rfl (sub_skip rfl (sub_skip rfl (sub_skip rfl (sub_skip rfl (sub_skip rfl (sub_skip rfl (sub_skip rfl (sub_skip rfl (sub_skip rfl (sub_skip rfl (sub_skip rfl (Sub.refl _))))))))))))))
        intro w12 hs
        replace hF := hF.st hs
        replace hT := hT.trans hs (by simp)
        replace hk := hk.st hs (by first | decide | (simp <;> omega))
        replace ho := ho.st hs (by first | decide | (simp <;> omega))
        replace hx := hx.st hs (by first | decide | (simp <;> omega))
        refine run_if (x := F15.c48) (y := F15.c49) (o := .tmp 57) (by kernel_rfl) rfl (fun h57 => ?_) (fun h57 => ?_)
        · skip
          obtain ⟨hql, he⟩ := h57
          rw [dif_pos hql, if_pos he] at hins
          refine run_exit (id := 3) (by kernel_rfl) rfl ?_
          refine run_plain (id := 7) (ops := F15.o7) [(0, true), (1, true), (2, true)] (by kernel_rfl) (by kernel_rfl) ?_
          refine yS (by kernel_rfl : opAt F15.o7 0 = some (some 22, .move (.tmp 5), none)) rfl rfl (fun w' hS => val_move rfl) ?_
          refine yS (by kernel_rfl : opAt F15.o7 1 = some (some 23, .binOp .add 3 (.tmp 22) (.const (.int .i64 1)) 3, none)) rfl rfl (fun w' hS => val_addi rfl rfl (by omega) (by omega)) ?_
          refine yS (by kernel_rfl : opAt F15.o7 2 = some (some 5, .assign (.tmp 23), none)) rfl rfl (fun w' hS => val_assign rfl) ?_
          refine Sch.nil ?_
          refine kp (sub_cons 0 rfl rfl (sub_cons 3 rfl rfl (sub_cons 4 rfl rfl (sub_cons 5 rfl (eq_int (by simp)) (sub_nil _))))) (next2 (j + 1, vo, C3) _ ⟨(by first | omega | (simp only; omega)), hF, hT, hk, (by simp only; rw [hsn, hins]; exact ho)⟩ (by first | omega | (simp only; omega)))
        · skip
          have hins2 : insC os c = os.take q ++ [c] ++ os.drop q := by
            rw [hins]
            by_cases h : q < os.length
            · rw [dif_pos h, if_neg (fun e => h57 ⟨h, e⟩)]; simp
            · rw [dif_neg h, List.take_of_length_le (by omega), List.drop_eq_nil_of_le (by omega), List.append_nil]
          refine run_skip (by kernel_rfl) ?_
          refine run_draw2 (id := 13) (ops := F15.o13) [5] (C3) [0, 1, 2, 4, 7, 8, 9] 3 [(5, false), (6, false), (10, false), (11, true)] 5 [(3, false), (6, false), (10, false), (11, true)] Try_mixed (by kernel_rfl) (by kernel_rfl) (by kernel_rfl) ?_ ?_
          · skip
            intro w13 hs
            replace hF := hF.st hs
            replace hT := hT.trans hs (by simp)
            replace hk := hk.st hs (by first | decide | (simp <;> omega))
            replace ho := ho.st hs (by first | decide | (simp <;> omega))
            replace hx := hx.st hs (by first | decide | (simp <;> omega))
            show Sch _ _ _ _ _ _ _ [(0, true), (1, true), (2, true), (4, true), (7, true), (8, true), (9, true), (3, false), (5, false), (6, false), (10, false), (11, true)] _ _
            have hR := Stp.refl [5] w13 (C3)
            refine yS (by kernel_rfl : opAt F15.o13 0 = some (some 58, .move (.tmp 3), none)) rfl rfl (fun w' hS => val_move rfl) ?_
            refine yS (by kernel_rfl : opAt F15.o13 1 = some (some 59, .move (.tmp 7), none)) rfl rfl (fun w' hS => val_move rfl) ?_
            refine sTR (e' := 50) (by kernel_rfl : opAt F15.o13 2 = some (some 60, .slice 26 (.tmp 58) none (some (.tmp 59)) none, none)) rfl rfl ho rfl (by kernel_rfl) rfl (by omega) (by omega) ?_
            intro v60 h60
            try simp only [Int.toNat_natCast] at h60
            refine yS (by kernel_rfl : opAt F15.o13 4 = some (some 62, .load 50 (.tmp 6), none)) rfl rfl (fun w' hS => val_loadOwnAgg (n := 2) (hx.stay hS (by decide)) (by kernel_rfl) (by kernel_rfl) rfl rfl rfl) ?_
            refine yS (by kernel_rfl : opAt F15.o13 7 = some (some 65, .move (.tmp 3), none)) rfl rfl (fun w' hS => val_move rfl) ?_
            refine yS (by kernel_rfl : opAt F15.o13 8 = some (some 66, .move (.tmp 7), none)) rfl rfl (fun w' hS => val_move rfl) ?_
            refine sFR (e' := 50) (by kernel_rfl : opAt F15.o13 9 = some (some 67, .slice 26 (.tmp 65) (some (.tmp 66)) none none, none)) rfl rfl ho rfl (by kernel_rfl) rfl (by omega) (by omega) ?_
            intro v67 h67
            try simp only [Int.toNat_natCast] at h67
            refine aS (by kernel_rfl : opAt F15.o13 3 = some (some 61, .call { callee := .builtin .append, args := #[(.const (.slice none 0 0)), (.tmp 60)], argTypes := #[26, 26] }, none)) rfl rfl (a_append (e := 50) (bytes := 16) hF (by decide) rfl rfl (by kernel_rfl) (by decide) (OwnL.nil (α := Couple) (j := 5)) h60 (by simp [List.length_take]; omega) (by simp [List.length_take]; omega)) ?_
            rintro v61 w14 ⟨Cw14, hs, hn, hF⟩
            refine ⟨(hR.trans hs (by simp)).ext, ?_⟩
            replace hT := hT.trans hs (by simp)
            replace hk := hk.st hs (by first | decide | (simp <;> omega))
            replace ho := ho.st hs (by first | decide | (simp <;> omega))
            replace hx := hx.st hs (by first | decide | (simp <;> omega))
            replace hR := hR.trans hs (by simp)
            replace h60 := h60.st hs (by first | decide | (simp <;> omega))
            replace h67 := h67.st hs (by first | decide | (simp <;> omega))
            refine aS (by kernel_rfl : opAt F15.o13 5 = some (some 63, .buildSlice 26 1 #[(0, (.tmp 62))], none)) rfl rfl (a_buildSlice (ys := ([c] : List Couple)) (e := 50) (bytes := 16) hF (by kernel_rfl) rfl (by decide) (by decide) ⟨rfl, ⟨_, rfl, rv_couple.2 rfl⟩, trivial⟩) ?_
            rintro v63 w15 ⟨hs, g63, hF⟩
            refine ⟨(hR.trans hs (by simp)).ext, ?_⟩
            replace hT := hT.trans hs (by simp)
            replace hk := hk.st hs (by first | decide | (simp <;> omega))
            replace ho := ho.st hs (by first | decide | (simp <;> omega))
            replace hx := hx.st hs (by first | decide | (simp <;> omega))
            replace hR := hR.trans hs (by simp)
            replace h60 := h60.st hs (by first | decide | (simp <;> omega))
            replace h67 := h67.st hs (by first | decide | (simp <;> omega))
            replace hn := hn.st hs (by first | decide | (simp <;> omega)) (by first | decide | (simp <;> omega))
            refine aS (by kernel_rfl : opAt F15.o13 6 = some (some 64, .call { callee := .builtin .append, args := #[(.tmp 61), (.tmp 63)], argTypes := #[26, 26] }, none)) rfl rfl (a_append (e := 50) (bytes := 16) hF (by decide) rfl rfl (by kernel_rfl) (by decide) hn g63 (by simp [List.length_take]; omega) (by simp [List.length_take]; omega)) ?_
            rintro v64 w16 ⟨Cw16, hs, hn, hF⟩
            refine ⟨(hR.trans hs (by simp)).ext, ?_⟩
            replace hT := hT.trans hs (by simp)
            replace hk := hk.st hs (by first | decide | (simp <;> omega))
            replace ho := ho.st hs (by first | decide | (simp <;> omega))
            replace hx := hx.st hs (by first | decide | (simp <;> omega))
            replace hR := hR.trans hs (by simp)
            replace h60 := h60.st hs (by first | decide | (simp <;> omega))
            replace h67 := h67.st hs (by first | decide | (simp <;> omega))
            replace g63 := g63.st hs (by first | decide | (simp <;> omega))
            refine aS (by kernel_rfl : opAt F15.o13 10 = some (some 68, .call { callee := .builtin .append, args := #[(.tmp 64), (.tmp 67)], argTypes := #[26, 26] }, none)) rfl rfl (a_append (e := 50) (bytes := 16) hF (by decide) rfl rfl (by kernel_rfl) (by decide) hn h67 (by simp [List.length_take]; omega) (by simp [List.length_take]; omega)) ?_
            rintro v68 w17 ⟨Cw17, hs, hn, hF⟩
            refine ⟨(hR.trans hs (by simp)).ext, ?_⟩
            replace hT := hT.trans hs (by simp)
            replace hk := hk.st hs (by first | decide | (simp <;> omega))
            replace ho := ho.st hs (by first | decide | (simp <;> omega))
            replace hx := hx.st hs (by first | decide | (simp <;> omega))
            replace hR := hR.trans hs (by simp)
            replace h60 := h60.st hs (by first | decide | (simp <;> omega))
            replace h67 := h67.st hs (by first | decide | (simp <;> omega))
            replace g63 := g63.st hs (by first | decide | (simp <;> omega))
            refine yS (by kernel_rfl : opAt F15.o13 11 = some (some 3, .assign (.tmp 68), none)) rfl rfl (fun w' hS => val_assign rfl) ?_
            refine Sch.nil ?_
            refine run_inBlock ?_
            refine run_plain (id := 7) (ops := F15.o7) [(0, true), (1, true), (2, true)] (by kernel_rfl) (by kernel_rfl) ?_
            refine yS (by kernel_rfl : opAt F15.o7 0 = some (some 22, .move (.tmp 5), none)) rfl rfl (fun w' hS => val_move rfl) ?_
            refine yS (by kernel_rfl : opAt F15.o7 1 = some (some 23, .binOp .add 3 (.tmp 22) (.const (.int .i64 1)) 3, none)) rfl rfl (fun w' hS => val_addi rfl rfl (by omega) (by omega)) ?_
            refine yS (by kernel_rfl : opAt F15.o7 2 = some (some 5, .assign (.tmp 23), none)) rfl rfl (fun w' hS => val_assign rfl) ?_
            refine Sch.nil ?_
            rw [List.nil_append, ← hins2] at hn
            have hil2 := insC_len c os
            have hnr := hn.frz (n := 5) (by decide) (by omega)
            replace hF := hF.frz 5
            replace hk := hk.frz 5
            replace hT := hT.frz (n := 5) (fun b => Nat.lt_of_lt_of_le (col1_lt2 C b) (by decide))
            refine kp (sub_cons 0 rfl rfl (sub_cons 3 rfl rfl (sub_cons 4 rfl rfl (sub_cons 5 rfl (eq_int (by simp)) (sub_nil _))))) (next2 (j + 1, v68, K.frz 5 Cw17) _ ⟨(by first | omega | (simp only; omega)), hF, hT, hk, (by simp only; rw [hsn]; exact hnr)⟩ (by first | omega | (simp only; omega)))
          · skip
            intro w18 hs
            replace hF := hF.st hs
            replace hT := hT.trans hs (by simp)
            replace hk := hk.st hs (by first | decide | (simp <;> omega))
            replace ho := ho.st hs (by first | decide | (simp <;> omega))
            replace hx := hx.st hs (by first | decide | (simp <;> omega))
            show Sch _ _ _ _ _ _ _ [(0, true), (1, true), (2, true), (4, true), (7, true), (8, true), (9, true), (5, false), (3, false), (6, false), (10, false), (11, true)] _ _
            have hR := Stp.refl [5] w18 (C3)
            refine yS (by kernel_rfl : opAt F15.o13 0 = some (some 58, .move (.tmp 3), none)) rfl rfl (fun w' hS => val_move rfl) ?_
            refine yS (by kernel_rfl : opAt F15.o13 1 = some (some 59, .move (.tmp 7), none)) rfl rfl (fun w' hS => val_move rfl) ?_
            refine sTR (e' := 50) (by kernel_rfl : opAt F15.o13 2 = some (some 60, .slice 26 (.tmp 58) none (some (.tmp 59)) none, none)) rfl rfl ho rfl (by kernel_rfl) rfl (by omega) (by omega) ?_
            intro v60 h60
            try simp only [Int.toNat_natCast] at h60
            refine yS (by kernel_rfl : opAt F15.o13 4 = some (some 62, .load 50 (.tmp 6), none)) rfl rfl (fun w' hS => val_loadOwnAgg (n := 2) (hx.stay hS (by decide)) (by kernel_rfl) (by kernel_rfl) rfl rfl rfl) ?_
            refine yS (by kernel_rfl : opAt F15.o13 7 = some (some 65, .move (.tmp 3), none)) rfl rfl (fun w' hS => val_move rfl) ?_
            refine yS (by kernel_rfl : opAt F15.o13 8 = some (some 66, .move (.tmp 7), none)) rfl rfl (fun w' hS => val_move rfl) ?_
            refine sFR (e' := 50) (by kernel_rfl : opAt F15.o13 9 = some (some 67, .slice 26 (.tmp 65) (some (.tmp 66)) none none, none)) rfl rfl ho rfl (by kernel_rfl) rfl (by omega) (by omega) ?_
            intro v67 h67
            try simp only [Int.toNat_natCast] at h67
            refine aS (by kernel_rfl : opAt F15.o13 5 = some (some 63, .buildSlice 26 1 #[(0, (.tmp 62))], none)) rfl rfl (a_buildSlice (ys := ([c] : List Couple)) (e := 50) (bytes := 16) hF (by kernel_rfl) rfl (by decide) (by decide) ⟨rfl, ⟨_, rfl, rv_couple.2 rfl⟩, trivial⟩) ?_
            rintro v63 w19 ⟨hs, g63, hF⟩
            refine ⟨(hR.trans hs (by simp)).ext, ?_⟩
            replace hT := hT.trans hs (by simp)
            replace hk := hk.st hs (by first | decide | (simp <;> omega))
            replace ho := ho.st hs (by first | decide | (simp <;> omega))
            replace hx := hx.st hs (by first | decide | (simp <;> omega))
            replace hR := hR.trans hs (by simp)
            replace h60 := h60.st hs (by first | decide | (simp <;> omega))
            replace h67 := h67.st hs (by first | decide | (simp <;> omega))
            refine aS (by kernel_rfl : opAt F15.o13 3 = some (some 61, .call { callee := .builtin .append, args := #[(.const (.slice none 0 0)), (.tmp 60)], argTypes := #[26, 26] }, none)) rfl rfl (a_append (e := 50) (bytes := 16) hF (by decide) rfl rfl (by kernel_rfl) (by decide) (OwnL.nil (α := Couple) (j := 5)) h60 (by simp [List.length_take]; omega) (by simp [List.length_take]; omega)) ?_
            rintro v61 w20 ⟨Cw20, hs, hn, hF⟩
            refine ⟨(hR.trans hs (by simp)).ext, ?_⟩
            replace hT := hT.trans hs (by simp)
            replace hk := hk.st hs (by first | decide | (simp <;> omega))
            replace ho := ho.st hs (by first | decide | (simp <;> omega))
            replace hx := hx.st hs (by first | decide | (simp <;> omega))
            replace hR := hR.trans hs (by simp)
            replace h60 := h60.st hs (by first | decide | (simp <;> omega))
            replace h67 := h67.st hs (by first | decide | (simp <;> omega))
            replace g63 := g63.st hs (by first | decide | (simp <;> omega))
            refine aS (by kernel_rfl : opAt F15.o13 6 = some (some 64, .call { callee := .builtin .append, args := #[(.tmp 61), (.tmp 63)], argTypes := #[26, 26] }, none)) rfl rfl (a_append (e := 50) (bytes := 16) hF (by decide) rfl rfl (by kernel_rfl) (by decide) hn g63 (by simp [List.length_take]; omega) (by simp [List.length_take]; omega)) ?_
            rintro v64 w21 ⟨Cw21, hs, hn, hF⟩
            refine ⟨(hR.trans hs (by simp)).ext, ?_⟩
            replace hT := hT.trans hs (by simp)
            replace hk := hk.st hs (by first | decide | (simp <;> omega))
            replace ho := ho.st hs (by first | decide | (simp <;> omega))
            replace hx := hx.st hs (by first | decide | (simp <;> omega))
            replace hR := hR.trans hs (by simp)
            replace h60 := h60.st hs (by first | decide | (simp <;> omega))
            replace h67 := h67.st hs (by first | decide | (simp <;> omega))
            replace g63 := g63.st hs (by first | decide | (simp <;> omega))
            refine aS (by kernel_rfl : opAt F15.o13 10 = some (some 68, .call { callee := .builtin .append, args := #[(.tmp 64), (.tmp 67)], argTypes := #[26, 26] }, none)) rfl rfl (a_append (e := 50) (bytes := 16) hF (by decide) rfl rfl (by kernel_rfl) (by decide) hn h67 (by simp [List.length_take]; omega) (by simp [List.length_take]; omega)) ?_
            rintro v68 w22 ⟨Cw22, hs, hn, hF⟩
            refine ⟨(hR.trans hs (by simp)).ext, ?_⟩
            replace hT := hT.trans hs (by simp)
            replace hk := hk.st hs (by first | decide | (simp <;> omega))
            replace ho := ho.st hs (by first | decide | (simp <;> omega))
            replace hx := hx.st hs (by first | decide | (simp <;> omega))
            replace hR := hR.trans hs (by simp)
            replace h60 := h60.st hs (by first | decide | (simp <;> omega))
            replace h67 := h67.st hs (by first | decide | (simp <;> omega))
            replace g63 := g63.st hs (by first | decide | (simp <;> omega))
            refine yS (by kernel_rfl : opAt F15.o13 11 = some (some 3, .assign (.tmp 68), none)) rfl rfl (fun w' hS => val_assign rfl) ?_
            refine Sch.nil ?_
            refine run_inBlock ?_
            refine run_plain (id := 7) (ops := F15.o7) [(0, true), (1, true), (2, true)] (by kernel_rfl) (by kernel_rfl) ?_
            refine yS (by kernel_rfl : opAt F15.o7 0 = some (some 22, .move (.tmp 5), none)) rfl rfl (fun w' hS => val_move rfl) ?_
            refine yS (by kernel_rfl : opAt F15.o7 1 = some (some 23, .binOp .add 3 (.tmp 22) (.const (.int .i64 1)) 3, none)) rfl rfl (fun w' hS => val_addi rfl rfl (by omega) (by omega)) ?_
            refine yS (by kernel_rfl : opAt F15.o7 2 = some (some 5, .assign (.tmp 23), none)) rfl rfl (fun w' hS => val_assign rfl) ?_
            refine Sch.nil ?_
            rw [List.nil_append, ← hins2] at hn
            have hil2 := insC_len c os
            have hnr := hn.frz (n := 5) (by decide) (by omega)
            replace hF := hF.frz 5
            replace hk := hk.frz 5
            replace hT := hT.frz (n := 5) (fun b => Nat.lt_of_lt_of_le (col1_lt2 C b) (by decide))
            refine kp (sub_cons 0 rfl rfl (sub_cons 3 rfl rfl (sub_cons 4 rfl rfl (sub_cons 5 rfl (eq_int (by simp)) (sub_nil _))))) (next2 (j + 1, v68, K.frz 5 Cw22) _ ⟨(by first | omega | (simp only; omega)), hF, hT, hk, (by simp only; rw [hsn]; exact hnr)⟩ (by first | omega | (simp only; omega)))
    · skip
      have hjl : j = ks[i].comps.length := by omega
      rw [hos, hjl, List.take_length, ← compsS_take hil] at ho
      refine run_exit (id := 2) (by kernel_rfl) rfl ?_
      refine run_inBlock ?_
      refine run_plain (id := 4) (ops := F15.o4) [(0, true), (1, true), (2, true)] (by kernel_rfl) (by kernel_rfl) ?_
      refine yS (by kernel_rfl : opAt F15.o4 0 = some (some 12, .move (.tmp 4), none)) rfl rfl (fun w' hS => val_move rfl) ?_
      refine yS (by kernel_rfl : opAt F15.o4 1 = some (some 13, .binOp .add 3 (.tmp 12) (.const (.int .i64 1)) 3, none)) rfl rfl (fun w' hS => val_addi rfl rfl (by omega) (by omega)) ?_
      refine yS (by kernel_rfl : opAt F15.o4 2 = some (some 4, .assign (.tmp 13), none)) rfl rfl (fun w' hS => val_assign rfl) ?_
      refine Sch.nil ?_
      refine kp (sub_cons 0 rfl rfl (sub_cons 3 rfl rfl (sub_cons 4 rfl (eq_int (by simp)) (sub_nil _)))) (next1 (i + 1, vo, C2) _ ⟨(by first | omega | (simp only; omega)), hF, hT, hk, ho⟩ (by first | omega | (simp only; omega)))
  · skip
    have hil : i = ks.length := by omega
    subst hil
    rw [List.take_length, refA_eq] at ho
    refine run_exit (id := 0) (by kernel_rfl) rfl ?_
    refine run_seq (x := F15.c54) (y := F15.c55) (by kernel_rfl) ?_
    refine run_plain (id := 14) (ops := F15.o14) [(0, true), (1, true)] (by kernel_rfl) (by kernel_rfl) ?_
    refine yS (by kernel_rfl : opAt F15.o14 0 = some (some 69, .move (.tmp 3), none)) rfl rfl (fun w' hS => val_move rfl) ?_
    refine yS (by kernel_rfl : opAt F15.o14 1 = some (some 2, .assign (.tmp 69), none)) rfl rfl (fun w' hS => val_assign rfl) ?_
    refine Sch.nil ?_
    refine run_ret1 (by kernel_rfl) Try.func15 Try.results15 rfl ?_
    exact ⟨hT.out1 (by decide), ho.out hT hF0 (Mc_col1 C)⟩
end Go.Proofs.Ytpmokjccfaakfaa

