/- Steps through functions of the program. -/
import Derived.Test.YtfmdkdfhnkennaaKCK
set_option linter.unusedVariables false
set_option linter.unusedSimpArgs false
set_option maxRecDepth 100000
set_option maxHeartbeats 400000
namespace Go.Proofs.Ytfmdkdfhnkennaa
open Go.K Go.K.Rep

namespace F3
noncomputable def c0 : Code := bodyOf Try.f3
noncomputable def c1 : Code := cl c0
noncomputable def o0 : Array Oper := rops c1
noncomputable def c2 : Code := cr c0
noncomputable def c3 : Code := cl c2
noncomputable def c4 : Code := cl c3
noncomputable def o1 : Array Oper := rops c4
noncomputable def c5 : Code := cr c3
noncomputable def c6 : Code := cl c5
noncomputable def c7 : Code := cl c6
noncomputable def o2 : Array Oper := rops c7
noncomputable def c8 : Code := cr c6
noncomputable def c9 : Code := cr c5
noncomputable def c10 : Code := cr c2
noncomputable def c11 : Code := cl c10
noncomputable def o3 : Array Oper := rops c11
noncomputable def c12 : Code := cr c10
noncomputable def c13 : Code := cl c12
noncomputable def c14 : Code := cl c13
noncomputable def o4 : Array Oper := rops c14
noncomputable def c15 : Code := cr c13
noncomputable def c16 : Code := cl c15
noncomputable def c17 : Code := cl c16
noncomputable def c18 : Code := cl c17
noncomputable def o5 : Array Oper := rops c18
noncomputable def c19 : Code := cr c17
noncomputable def c20 : Code := cl c19
noncomputable def c21 : Code := cl c20
noncomputable def c22 : Code := cr c20
noncomputable def c23 : Code := cr c19
noncomputable def c24 : Code := cl c23
noncomputable def c25 : Code := cl c24
noncomputable def c26 : Code := cl c25
noncomputable def o6 : Array Oper := rops c26
noncomputable def c27 : Code := cr c25
noncomputable def c28 : Code := cl c27
noncomputable def c29 : Code := cl c28
noncomputable def o7 : Array Oper := rops c29
noncomputable def c30 : Code := cr c28
noncomputable def c31 : Code := cl c30
noncomputable def c32 : Code := cl c31
noncomputable def o8 : Array Oper := rops c32
noncomputable def c33 : Code := cr c31
noncomputable def c34 : Code := cr c30
noncomputable def c35 : Code := cr c27
noncomputable def c36 : Code := cl c35
noncomputable def o9 : Array Oper := rops c36
noncomputable def c37 : Code := cr c35
noncomputable def c38 : Code := cl c37
noncomputable def o10 : Array Oper := rops c38
noncomputable def c39 : Code := cr c37
noncomputable def c40 : Code := cl c39
noncomputable def c41 : Code := cl c40
noncomputable def o11 : Array Oper := rops c41
noncomputable def c42 : Code := cr c40
noncomputable def c43 : Code := cl c42
noncomputable def c44 : Code := cl c43
noncomputable def o12 : Array Oper := rops c44
noncomputable def c45 : Code := cr c43
noncomputable def c46 : Code := cr c42
noncomputable def c47 : Code := cr c39
noncomputable def c48 : Code := cl c47
noncomputable def o13 : Array Oper := rops c48
noncomputable def c49 : Code := cr c47
noncomputable def c50 : Code := cl c49
noncomputable def o14 : Array Oper := rops c50
noncomputable def c51 : Code := cr c49
noncomputable def c52 : Code := cl c51
noncomputable def c53 : Code := cl c52
noncomputable def o15 : Array Oper := rops c53
noncomputable def c54 : Code := cr c52
noncomputable def c55 : Code := cl c54
noncomputable def c56 : Code := cl c55
noncomputable def o16 : Array Oper := rops c56
noncomputable def c57 : Code := cr c55
noncomputable def c58 : Code := cr c54
noncomputable def c59 : Code := cr c51
noncomputable def c60 : Code := cl c59
noncomputable def o17 : Array Oper := rops c60
noncomputable def c61 : Code := cr c59
noncomputable def c62 : Code := cl c61
noncomputable def c63 : Code := cl c62
noncomputable def c64 : Code := cl c63
noncomputable def o18 : Array Oper := rops c64
noncomputable def c65 : Code := cr c63
noncomputable def c66 : Code := cl c65
noncomputable def c67 : Code := cl c66
noncomputable def c68 : Code := cr c66
noncomputable def c69 : Code := cr c65
noncomputable def c70 : Code := cl c69
noncomputable def c71 : Code := cl c70
noncomputable def c72 : Code := cl c71
noncomputable def o19 : Array Oper := rops c72
noncomputable def c73 : Code := cr c71
noncomputable def c74 : Code := cl c73
noncomputable def o20 : Array Oper := rops c74
noncomputable def c75 : Code := cr c73
noncomputable def c76 : Code := cl c75
noncomputable def c77 : Code := cl c76
noncomputable def o21 : Array Oper := rops c77
noncomputable def c78 : Code := cr c76
noncomputable def c79 : Code := cr c75
noncomputable def c80 : Code := cr c69
noncomputable def o22 : Array Oper := rops c80
noncomputable def c81 : Code := cr c23
noncomputable def o23 : Array Oper := rops c81
noncomputable def c82 : Code := cr c12
noncomputable def c83 : Code := cl c82
noncomputable def o24 : Array Oper := rops c83
noncomputable def c84 : Code := cr c82
end F3
/-- The statement's function answers true. -/
theorem componentExact_ok {w₀ : World} {C : Nat → Nat} {l : List Int} {raw : List Bond} {r : Couple} {lists : List (List Couple)} {vl vraw vls : Value} (hF : Lim w₀ C) (hl : RV w₀ (Mc C) l vl) (hraw : RV w₀ (Mc C) raw vraw) (hls : RV w₀ (Mc C) lists vls) : Calls Try.prog 3 #[vl, vraw, .agg (encR r).toArray, vls] w₀ (Ret fun v w' => v = .bool true ∧ Stp [] w₀ C w' C) := by
  have hF0 := hF
  have hT := Stp.refl [2, 3, 4, 5, 6, 7, 8, 9] w₀ (col1 C)
  replace hF := hF.col1
  replace hl : RV w₀ (Mc (col1 C)) l vl := by rw [Mc_col1]; exact hl
  replace hraw : RV w₀ (Mc (col1 C)) raw vraw := by rw [Mc_col1]; exact hraw
  replace hls : RV w₀ (Mc (col1 C)) lists vls := by rw [Mc_col1]; exact hls
  refine calls_start (c := F3.c0) (N := 142) [vl, vraw, .agg (encR r).toArray, vls] Try.func3 (by kernel_rfl) (by kernel_rfl) (by kernel_rfl) ?_
  show Run _ _ _ _ [(0, vl), (1, vraw), (2, .agg (encR r).toArray), (3, vls)] _ _
  refine run_seq (x := F3.c1) (y := F3.c2) (by kernel_rfl) ?_
  refine run_plain (id := 0) (ops := F3.o0) [(0, false), (1, true)] (by kernel_rfl) (by kernel_rfl) ?_
  refine aS (by kernel_rfl : opAt F3.o0 0 = some (some 6, .box 25 (.tmp 2), none)) rfl rfl (a_box (cs := encR r) hF 4 rfl rfl) ?_
  rintro _ w1 ⟨Cw1, bw1, rfl, hs, hr, hF⟩
  refine ⟨trivial, ?_⟩
  replace hT := hT.trans hs (by simp)
  replace hl := hl.st hs (by first | decide | (simp <;> omega))
  replace hraw := hraw.st hs (by first | decide | (simp <;> omega))
  replace hls := hls.st hs (by first | decide | (simp <;> omega))
  refine yS (by kernel_rfl : opAt F3.o0 1 = some (some 8, .assign (.const (.bool false)), none)) rfl rfl (fun w' hS => val_assign rfl) ?_
  refine Sch.nil ?_
  refine run_seq (x := F3.c3) (y := F3.c10) (by kernel_rfl) ?_
  refine run_seq (x := F3.c4) (y := F3.c5) (by kernel_rfl) ?_
  refine run_cut 37 (decide (400 < l.length ∨ 60 < raw.length ∨ 20 < lists.length)) (Cw1) ?_ ?_
  · intro hcut
    by_cases hA : (l.length : Int) ≤ 400
    · skip
      by_cases hB : (60 : Int) < raw.length
      · skip
        refine run_plain (id := 1) (ops := F3.o1) [(0, false), (1, true), (2, true), (3, true), (4, false), (5, true), (6, true), (7, true), (8, true), (9, true), (10, true), (11, true), (12, true), (13, true), (14, true), (15, true), (16, true)] (by kernel_rfl) (by kernel_rfl) ?_
        have hcs := Stp.reflF hF
        refine cS (by kernel_rfl : opAt F3.o1 0 = some (some 21, .call { callee := .value (.func 8), args := #[], argTypes := #[] }, none)) rfl rfl (ent Try.call8 rfl) (awake_ok hF) ?_
        rintro vw2 w2 ⟨rfl, hs⟩
        refine ⟨trivial, ?_⟩
        replace hF := hF.st hs
        replace hT := hT.trans hs (by simp)
        replace hl := hl.st hs (by first | decide | (simp <;> omega))
        replace hraw := hraw.st hs (by first | decide | (simp <;> omega))
        replace hls := hls.st hs (by first | decide | (simp <;> omega))
        replace hr := hr.st hs (by first | decide | (simp <;> omega))
        replace hcs := hcs.trans hs (by simp)
        refine yS (by kernel_rfl : opAt F3.o1 1 = some (some 22, .unOp .not 4 (.tmp 21), none)) rfl rfl (fun w' hS => val_not rfl) ?_
        refine yS (by kernel_rfl : opAt F3.o1 2 = some (some 23, .move (.tmp 22), none)) rfl rfl (fun w' hS => val_move rfl) ?_
        refine yS (by kernel_rfl : opAt F3.o1 3 = some (some 24, .move (.tmp 0), (some (2, false)))) rfl rfl (fun w' hS => val_move rfl) ?_
        refine cS (by kernel_rfl : opAt F3.o1 4 = some (some 25, .call { callee := .value (.func 9), args := #[(.tmp 24)], argTypes := #[22] }, (some (2, false)))) rfl rfl (ent Try.call9 rfl) (few_any hl) ?_
        rintro vw3 w3 ⟨rfl, rfl⟩
        refine ⟨trivial, ?_⟩
        refine yS (by kernel_rfl : opAt F3.o1 5 = some (some 26, .unOp .not 4 (.tmp 25), (some (2, false)))) rfl rfl (fun w' hS => val_F (val_notd rfl) (fun e => e hA)) ?_
        refine yS (by kernel_rfl : opAt F3.o1 6 = some (some 27, .pick (.tmp 23) (.const (.bool true)) (.tmp 26), none)) rfl rfl (fun w' hS => val_pick_f rfl rfl) ?_
        refine yS (by kernel_rfl : opAt F3.o1 7 = some (some 28, .move (.tmp 27), none)) rfl rfl (fun w' hS => val_move rfl) ?_
        refine yS (by kernel_rfl : opAt F3.o1 8 = some (some 29, .move (.tmp 1), (some (7, false)))) rfl rfl (fun w' hS => val_move rfl) ?_
        refine yS (by kernel_rfl : opAt F3.o1 9 = some (some 30, .call { callee := .builtin .len, args := #[(.tmp 29)], argTypes := #[23] }, (some (7, false)))) rfl rfl (fun w' hS => hraw.lenV rfl Try.underlying23 w' ) ?_
        refine yS (by kernel_rfl : opAt F3.o1 10 = some (some 31, .binOp .gtr 3 (.tmp 30) (.const (.int .i64 60)) 3, (some (7, false)))) rfl rfl (fun w' hS => val_T (val_gtr rfl rfl) hB) ?_
        refine yS (by kernel_rfl : opAt F3.o1 11 = some (some 32, .pick (.tmp 28) (.const (.bool true)) (.tmp 31), none)) rfl rfl (fun w' hS => val_pick_f rfl rfl) ?_
        refine yS (by kernel_rfl : opAt F3.o1 12 = some (some 33, .move (.tmp 32), none)) rfl rfl (fun w' hS => val_move rfl) ?_
        refine pS (by kernel_rfl : opAt F3.o1 13 = some (some 34, .move (.tmp 3), (some (12, false)))) rfl rfl ?_
        refine pS (by kernel_rfl : opAt F3.o1 14 = some (some 35, .call { callee := .builtin .len, args := #[(.tmp 34)], argTypes := #[26] }, (some (12, false)))) rfl rfl ?_
        refine pS (by kernel_rfl : opAt F3.o1 15 = some (some 36, .binOp .gtr 3 (.tmp 35) (.const (.int .i64 20)) 3, (some (12, false)))) rfl rfl ?_
        refine yS (by kernel_rfl : opAt F3.o1 16 = some (some 37, .pick (.tmp 33) (.const (.bool true)) (.tmp 36), none)) rfl rfl (fun w' hS => val_pick_t rfl rfl) ?_
        exact Sch.nil (hcut _ _ _ hcs rfl (by rw [decide_eq_true (by omega)]) (sub_skip rfl (sub_skip rfl (sub_skip rfl (sub_skip rfl (sub_skip rfl (sub_skip rfl (sub_skip rfl (sub_skip rfl (sub_skip rfl (sub_skip rfl (sub_skip rfl (sub_skip rfl (sub_skip rfl (sub_skip rfl (sub_skip rfl (sub_skip rfl (sub_skip rfl (Sub.refl _)))))))))))))))))))
      · skip
        refine run_plain (id := 1) (ops := F3.o1) [(0, false), (1, true), (2, true), (3, true), (4, false), (5, true), (6, true), (7, true), (8, true), (9, true), (10, true), (11, true), (12, true), (13, true), (14, true), (15, true), (16, true)] (by kernel_rfl) (by kernel_rfl) ?_
        have hcs := Stp.reflF hF
        refine cS (by kernel_rfl : opAt F3.o1 0 = some (some 21, .call { callee := .value (.func 8), args := #[], argTypes := #[] }, none)) rfl rfl (ent Try.call8 rfl) (awake_ok hF) ?_
        rintro vw4 w4 ⟨rfl, hs⟩
        refine ⟨trivial, ?_⟩
        replace hF := hF.st hs
        replace hT := hT.trans hs (by simp)
        replace hl := hl.st hs (by first | decide | (simp <;> omega))
        replace hraw := hraw.st hs (by first | decide | (simp <;> omega))
        replace hls := hls.st hs (by first | decide | (simp <;> omega))
        replace hr := hr.st hs (by first | decide | (simp <;> omega))
        replace hcs := hcs.trans hs (by simp)
        refine yS (by kernel_rfl : opAt F3.o1 1 = some (some 22, .unOp .not 4 (.tmp 21), none)) rfl rfl (fun w' hS => val_not rfl) ?_
        refine yS (by kernel_rfl : opAt F3.o1 2 = some (some 23, .move (.tmp 22), none)) rfl rfl (fun w' hS => val_move rfl) ?_
        refine yS (by kernel_rfl : opAt F3.o1 3 = some (some 24, .move (.tmp 0), (some (2, false)))) rfl rfl (fun w' hS => val_move rfl) ?_
        refine cS (by kernel_rfl : opAt F3.o1 4 = some (some 25, .call { callee := .value (.func 9), args := #[(.tmp 24)], argTypes := #[22] }, (some (2, false)))) rfl rfl (ent Try.call9 rfl) (few_any hl) ?_
        rintro vw5 w5 ⟨rfl, rfl⟩
        refine ⟨trivial, ?_⟩
        refine yS (by kernel_rfl : opAt F3.o1 5 = some (some 26, .unOp .not 4 (.tmp 25), (some (2, false)))) rfl rfl (fun w' hS => val_F (val_notd rfl) (fun e => e hA)) ?_
        refine yS (by kernel_rfl : opAt F3.o1 6 = some (some 27, .pick (.tmp 23) (.const (.bool true)) (.tmp 26), none)) rfl rfl (fun w' hS => val_pick_f rfl rfl) ?_
        refine yS (by kernel_rfl : opAt F3.o1 7 = some (some 28, .move (.tmp 27), none)) rfl rfl (fun w' hS => val_move rfl) ?_
        refine yS (by kernel_rfl : opAt F3.o1 8 = some (some 29, .move (.tmp 1), (some (7, false)))) rfl rfl (fun w' hS => val_move rfl) ?_
        refine yS (by kernel_rfl : opAt F3.o1 9 = some (some 30, .call { callee := .builtin .len, args := #[(.tmp 29)], argTypes := #[23] }, (some (7, false)))) rfl rfl (fun w' hS => hraw.lenV rfl Try.underlying23 w' ) ?_
        refine yS (by kernel_rfl : opAt F3.o1 10 = some (some 31, .binOp .gtr 3 (.tmp 30) (.const (.int .i64 60)) 3, (some (7, false)))) rfl rfl (fun w' hS => val_F (val_gtr rfl rfl) hB) ?_
        refine yS (by kernel_rfl : opAt F3.o1 11 = some (some 32, .pick (.tmp 28) (.const (.bool true)) (.tmp 31), none)) rfl rfl (fun w' hS => val_pick_f rfl rfl) ?_
        refine yS (by kernel_rfl : opAt F3.o1 12 = some (some 33, .move (.tmp 32), none)) rfl rfl (fun w' hS => val_move rfl) ?_
        refine yS (by kernel_rfl : opAt F3.o1 13 = some (some 34, .move (.tmp 3), (some (12, false)))) rfl rfl (fun w' hS => val_move rfl) ?_
        refine yS (by kernel_rfl : opAt F3.o1 14 = some (some 35, .call { callee := .builtin .len, args := #[(.tmp 34)], argTypes := #[26] }, (some (12, false)))) rfl rfl (fun w' hS => hls.lenV rfl Try.underlying26 w' ) ?_
        refine yS (by kernel_rfl : opAt F3.o1 15 = some (some 36, .binOp .gtr 3 (.tmp 35) (.const (.int .i64 20)) 3, (some (12, false)))) rfl rfl (fun w' hS => val_gtr rfl rfl) ?_
        refine yS (by kernel_rfl : opAt F3.o1 16 = some (some 37, .pick (.tmp 33) (.const (.bool true)) (.tmp 36), none)) rfl rfl (fun w' hS => val_pick_f rfl rfl) ?_
        exact Sch.nil (hcut _ _ _ hcs rfl (by congr 1; apply decide_eq_decide.2; omega) (sub_skip rfl (sub_skip rfl (sub_skip rfl (sub_skip rfl (sub_skip rfl (sub_skip rfl (sub_skip rfl (sub_skip rfl (sub_skip rfl (sub_skip rfl (sub_skip rfl (sub_skip rfl (sub_skip rfl (sub_skip rfl (sub_skip rfl (sub_skip rfl (sub_skip rfl (Sub.refl _)))))))))))))))))))
    · skip
      refine run_plain (id := 1) (ops := F3.o1) [(0, false), (1, true), (2, true), (3, true), (4, false), (5, true), (6, true), (7, true), (8, true), (9, true), (10, true), (11, true), (12, true), (13, true), (14, true), (15, true), (16, true)] (by kernel_rfl) (by kernel_rfl) ?_
      have hcs := Stp.reflF hF
      refine cS (by kernel_rfl : opAt F3.o1 0 = some (some 21, .call { callee := .value (.func 8), args := #[], argTypes := #[] }, none)) rfl rfl (ent Try.call8 rfl) (awake_ok hF) ?_
      rintro vw6 w6 ⟨rfl, hs⟩
      refine ⟨trivial, ?_⟩
      replace hF := hF.st hs
      replace hT := hT.trans hs (by simp)
      replace hl := hl.st hs (by first | decide | (simp <;> omega))
      replace hraw := hraw.st hs (by first | decide | (simp <;> omega))
      replace hls := hls.st hs (by first | decide | (simp <;> omega))
      replace hr := hr.st hs (by first | decide | (simp <;> omega))
      replace hcs := hcs.trans hs (by simp)
      refine yS (by kernel_rfl : opAt F3.o1 1 = some (some 22, .unOp .not 4 (.tmp 21), none)) rfl rfl (fun w' hS => val_not rfl) ?_
      refine yS (by kernel_rfl : opAt F3.o1 2 = some (some 23, .move (.tmp 22), none)) rfl rfl (fun w' hS => val_move rfl) ?_
      refine yS (by kernel_rfl : opAt F3.o1 3 = some (some 24, .move (.tmp 0), (some (2, false)))) rfl rfl (fun w' hS => val_move rfl) ?_
      refine cS (by kernel_rfl : opAt F3.o1 4 = some (some 25, .call { callee := .value (.func 9), args := #[(.tmp 24)], argTypes := #[22] }, (some (2, false)))) rfl rfl (ent Try.call9 rfl) (few_any hl) ?_
      rintro vw7 w7 ⟨rfl, rfl⟩
      refine ⟨trivial, ?_⟩
      refine yS (by kernel_rfl : opAt F3.o1 5 = some (some 26, .unOp .not 4 (.tmp 25), (some (2, false)))) rfl rfl (fun w' hS => val_T (val_notd rfl) hA) ?_
      refine yS (by kernel_rfl : opAt F3.o1 6 = some (some 27, .pick (.tmp 23) (.const (.bool true)) (.tmp 26), none)) rfl rfl (fun w' hS => val_pick_f rfl rfl) ?_
      refine yS (by kernel_rfl : opAt F3.o1 7 = some (some 28, .move (.tmp 27), none)) rfl rfl (fun w' hS => val_move rfl) ?_
      refine pS (by kernel_rfl : opAt F3.o1 8 = some (some 29, .move (.tmp 1), (some (7, false)))) rfl rfl ?_
      refine pS (by kernel_rfl : opAt F3.o1 9 = some (some 30, .call { callee := .builtin .len, args := #[(.tmp 29)], argTypes := #[23] }, (some (7, false)))) rfl rfl ?_
      refine pS (by kernel_rfl : opAt F3.o1 10 = some (some 31, .binOp .gtr 3 (.tmp 30) (.const (.int .i64 60)) 3, (some (7, false)))) rfl rfl ?_
      refine yS (by kernel_rfl : opAt F3.o1 11 = some (some 32, .pick (.tmp 28) (.const (.bool true)) (.tmp 31), none)) rfl rfl (fun w' hS => val_pick_t rfl rfl) ?_
      refine yS (by kernel_rfl : opAt F3.o1 12 = some (some 33, .move (.tmp 32), none)) rfl rfl (fun w' hS => val_move rfl) ?_
      refine pS (by kernel_rfl : opAt F3.o1 13 = some (some 34, .move (.tmp 3), (some (12, false)))) rfl rfl ?_
      refine pS (by kernel_rfl : opAt F3.o1 14 = some (some 35, .call { callee := .builtin .len, args := #[(.tmp 34)], argTypes := #[26] }, (some (12, false)))) rfl rfl ?_
      refine pS (by kernel_rfl : opAt F3.o1 15 = some (some 36, .binOp .gtr 3 (.tmp 35) (.const (.int .i64 20)) 3, (some (12, false)))) rfl rfl ?_
      refine yS (by kernel_rfl : opAt F3.o1 16 = some (some 37, .pick (.tmp 33) (.const (.bool true)) (.tmp 36), none)) rfl rfl (fun w' hS => val_pick_t rfl rfl) ?_
      exact Sch.nil (hcut _ _ _ hcs rfl (by rw [decide_eq_true (by omega)]) (sub_skip rfl (sub_skip rfl (sub_skip rfl (sub_skip rfl (sub_skip rfl (sub_skip rfl (sub_skip rfl (sub_skip rfl (sub_skip rfl (sub_skip rfl (sub_skip rfl (sub_skip rfl (sub_skip rfl (sub_skip rfl (sub_skip rfl (sub_skip rfl (sub_skip rfl (Sub.refl _)))))))))))))))))))
  intro w8 hs
  replace hF := hF.st hs
  replace hT := hT.trans hs (by simp)
  replace hl := hl.st hs (by first | decide | (simp <;> omega))
  replace hraw := hraw.st hs (by first | decide | (simp <;> omega))
  replace hls := hls.st hs (by first | decide | (simp <;> omega))
  replace hr := hr.st hs (by first | decide | (simp <;> omega))
  refine run_if (x := F3.c6) (y := F3.c9) (o := .tmp 37) (by kernel_rfl) rfl (fun h37 => ?_) (fun h37 => ?_)
  · skip
    refine run_seq (x := F3.c7) (y := F3.c8) (by kernel_rfl) ?_
    refine run_plain (id := 2) (ops := F3.o2) [(0, false), (1, true)] (by kernel_rfl) (by kernel_rfl) ?_
    refine cS (by kernel_rfl : opAt F3.o2 0 = some (some 38, .call { callee := .value (.func 8), args := #[], argTypes := #[] }, none)) rfl rfl (ent Try.call8 rfl) (awake_ok hF) ?_
    rintro vw9 w9 ⟨rfl, hs⟩
    refine ⟨trivial, ?_⟩
    replace hF := hF.st hs
    replace hT := hT.trans hs (by simp)
    replace hl := hl.st hs (by first | decide | (simp <;> omega))
    replace hraw := hraw.st hs (by first | decide | (simp <;> omega))
    replace hls := hls.st hs (by first | decide | (simp <;> omega))
    replace hr := hr.st hs (by first | decide | (simp <;> omega))
    refine yS (by kernel_rfl : opAt F3.o2 1 = some (some 8, .assign (.tmp 38), none)) rfl rfl (fun w' hS => val_assign rfl) ?_
    refine Sch.nil ?_
    refine run_ret1 (by kernel_rfl) Try.func3 Try.results3 rfl ?_
    exact ⟨rfl, hT.out1 (by decide)⟩
  · skip
    refine run_skip (by kernel_rfl) ?_
    refine run_seq (x := F3.c11) (y := F3.c12) (by kernel_rfl) ?_
    refine run_plain (id := 3) (ops := F3.o3) [(0, true), (1, false), (2, true)] (by kernel_rfl) (by kernel_rfl) ?_
    refine yS (by kernel_rfl : opAt F3.o3 0 = some (some 39, .move (.tmp 0), none)) rfl rfl (fun w' hS => val_move rfl) ?_
    refine cS (by kernel_rfl : opAt F3.o3 1 = some (some 40, .call { callee := .value (.func 10), args := #[(.tmp 39)], argTypes := #[22] }, none)) rfl rfl (ent Try.call10 rfl) (new_any hF hl) ?_
    rintro vw10 w10 ⟨Cd, bd, rfl, hs, hF, hd⟩
    refine ⟨trivial, ?_⟩
    replace hT := hT.trans hs (by simp)
    replace hl := hl.st hs (by first | decide | (simp <;> omega))
    replace hraw := hraw.st hs (by first | decide | (simp <;> omega))
    replace hls := hls.st hs (by first | decide | (simp <;> omega))
    replace hr := hr.st hs (by first | decide | (simp <;> omega))
    refine yS (by kernel_rfl : opAt F3.o3 2 = some (some 9, .assign (.tmp 40), none)) rfl rfl (fun w' hS => val_assign rfl) ?_
    refine Sch.nil ?_
    refine run_seq (x := F3.c13) (y := F3.c82) (by kernel_rfl) ?_
    refine run_seq (x := F3.c14) (y := F3.c15) (by kernel_rfl) ?_
    refine run_plain (id := 4) (ops := F3.o4) [(0, true), (1, true), (2, true), (3, false), (4, true), (5, false), (6, true), (7, false), (8, false), (9, true), (10, true)] (by kernel_rfl) (by kernel_rfl) ?_
    refine yS (by kernel_rfl : opAt F3.o4 0 = some (some 41, .move (.tmp 1), none)) rfl rfl (fun w' hS => val_move rfl) ?_
    refine yS (by kernel_rfl : opAt F3.o4 1 = some (some 42, .move (.tmp 9), none)) rfl rfl (fun w' hS => val_move rfl) ?_
    refine yS (by kernel_rfl : opAt F3.o4 2 = some (some 43, .move (.tmp 9), none)) rfl rfl (fun w' hS => val_move rfl) ?_
    refine cS (by kernel_rfl : opAt F3.o4 3 = some (some 44, .call { callee := .value (.func 12), args := #[(.tmp 43), (.const (.int .i64 20))], argTypes := #[29, 3] }, none)) rfl rfl (ent Try.call12 rfl) (next_any (n := 20) hF (by decide) hd (by omega) (by omega)) ?_
    rintro vw11 w11 ⟨q, rfl, hq, hs, hd⟩
    refine ⟨trivial, ?_⟩
    replace hF := hF.st hs
    replace hT := hT.trans hs (by simp)
    replace hl := hl.st hs (by first | decide | (simp <;> omega))
    replace hraw := hraw.st hs (by first | decide | (simp <;> omega))
    replace hls := hls.st hs (by first | decide | (simp <;> omega))
    replace hr := hr.st hs (by first | decide | (simp <;> omega))
    refine yS (by kernel_rfl : opAt F3.o4 4 = some (some 45, .binOp .add 3 (.const (.int .i64 2)) (.tmp 44) 3, none)) rfl rfl (fun w' hS => val_addi rfl rfl (by omega) (by omega)) ?_
    refine cS (by kernel_rfl : opAt F3.o4 5 = some (some 46, .call { callee := .value (.func 11), args := #[(.tmp 42), (.const (.int .i64 4)), (.const (.int .i64 4)), (.tmp 45)], argTypes := #[29, 3, 3, 3] }, none)) rfl rfl (ent Try.call11 rfl) (bonds_any (R := 4) (I := 4) (one := 2 + (q : Int)) hF (by decide) hd (by decide) (by decide) (by omega) (by omega)) ?_
    rintro vb w12 ⟨bl, hbl, ⟨hs, hb, hd⟩, _⟩
    refine ⟨trivial, ?_⟩
    replace hF := hF.st hs
    replace hT := hT.trans hs (by simp)
    replace hl := hl.st hs (by first | decide | (simp <;> omega))
    replace hraw := hraw.st hs (by first | decide | (simp <;> omega))
    replace hls := hls.st hs (by first | decide | (simp <;> omega))
    replace hr := hr.st hs (by first | decide | (simp <;> omega))
    have hbv := hbl.vld (by decide) (by decide)
    have hck := hbv.check
    have hbL := hbl.2.2
    have hprl := parts_le bl
    have hrl2 := refsS_len bl
    refine yS (by kernel_rfl : opAt F3.o4 6 = some (some 47, .move (.tmp 9), none)) rfl rfl (fun w' hS => val_move rfl) ?_
    refine cS (by kernel_rfl : opAt F3.o4 7 = some (some 48, .call { callee := .value (.func 13), args := #[(.tmp 47)], argTypes := #[29] }, none)) rfl rfl (ent Try.call13 rfl) (bent_any hF (by decide) hd) ?_
    rintro vt w13 ⟨bt, hbtl, hs, hbt, hd⟩
    refine ⟨trivial, ?_⟩
    replace hF := hF.st hs
    replace hT := hT.trans hs (by simp)
    replace hl := hl.st hs (by first | decide | (simp <;> omega))
    replace hraw := hraw.st hs (by first | decide | (simp <;> omega))
    replace hls := hls.st hs (by first | decide | (simp <;> omega))
    replace hr := hr.st hs (by first | decide | (simp <;> omega))
    replace hb := hb.st hs (by first | decide | (simp <;> omega))
    refine aS (by kernel_rfl : opAt F3.o4 8 = some (some 49, .buildSlice 34 3 #[(0, (.tmp 41)), (1, (.tmp 46)), (2, (.tmp 48))], none)) rfl rfl (a_buildSlice (ys := ([raw, bl, bt] : List (List Bond))) (e := 23) (bytes := 24) hF (by kernel_rfl) rfl (by decide) (by decide) ⟨rfl, ⟨_, rfl, hraw⟩, rfl, ⟨_, rfl, hb⟩, rfl, ⟨_, rfl, hbt⟩, trivial⟩) ?_
    rintro v49 w14 ⟨hs, g49, hF⟩
    refine ⟨trivial, ?_⟩
    replace hT := hT.trans hs (by simp)
    replace hl := hl.st hs (by first | decide | (simp <;> omega))
    replace hraw := hraw.st hs (by first | decide | (simp <;> omega))
    replace hls := hls.st hs (by first | decide | (simp <;> omega))
    replace hr := hr.st hs (by first | decide | (simp <;> omega))
    replace hd := hd.st hs (by first | decide | (simp <;> omega)) (by first | decide | (simp <;> omega))
    replace hb := hb.st hs (by first | decide | (simp <;> omega))
    replace hbt := hbt.st hs (by first | decide | (simp <;> omega))
    obtain ⟨xs, hxs⟩ : ∃ l : List (List Bond), l = [raw, bl, bt] := ⟨_, rfl⟩
    rw [← hxs] at g49
    have hxl : xs.length = 3 := by rw [hxs]; rfl
    have hxa : ∀ x ∈ xs, x.length ≤ 4097 := fun x hx => by rw [hxs] at hx; simp only [List.mem_cons, List.not_mem_nil, or_false] at hx; rcases hx with rfl | rfl | rfl <;> omega
    refine yS (by kernel_rfl : opAt F3.o4 9 = some (some 50, .call { callee := .builtin .len, args := #[(.tmp 49)], argTypes := #[34] }, none)) rfl rfl (fun w' hS => g49.lenV rfl Try.underlying34 w' ) ?_
    refine yS (by kernel_rfl : opAt F3.o4 10 = some (some 51, .move (.const (.int .i64 0)), none)) rfl rfl (fun w' hS => val_move rfl) ?_
    refine Sch.nil ?_
    refine run_block (x := F3.c16) (id := 0) (by kernel_rfl) ?_
    
    refine run_loop (ι := Nat × (Nat → Nat)) (I := fun x w => x.1 ≤ xs.length ∧ Lim w x.2 ∧ Stp [2, 3, 4, 5, 6, 7, 8, 9] w₀ (col1 C) w x.2 ∧ RV w (Mc x.2) lists vls ∧ OwnB w x.2 4 bw1 (.cells (encR r).toArray 25) ∧ RV w (Mc x.2) xs v49) (e := fun x => [(3, vls), (6, .pointer (some ⟨bw1, 0, none⟩)), (49, v49), (50, .int .i64 xs.length), (51, .int .i64 x.1)]) (m := fun x => xs.length - x.1) (x₀ := (0, Cd)) (body := F3.c17) (by kernel_rfl) (sub_cons 3 rfl rfl (sub_cons 6 rfl rfl (sub_cons 49 rfl rfl (sub_cons 50 rfl rfl (sub_cons 51 rfl rfl (sub_nil _)))))) ?_ ?_
    · exact ⟨Nat.zero_le _, hF, hT, hls, hr, g49⟩
    intro ⟨i1, C1⟩ w15 hI next
    obtain ⟨hi1, hF, hT, hls, hr, g49⟩ := hI
    try simp only at hi1 hF hT hls hr g49
    have next1 := next
    clear next
    show Run _ _ _ _ [(3, vls), (6, .pointer (some ⟨bw1, 0, none⟩)), (49, v49), (50, .int .i64 xs.length), (51, .int .i64 i1)] _ _
    refine run_seq (x := F3.c18) (y := F3.c19) (by kernel_rfl) ?_
    refine run_plain (id := 5) (ops := F3.o5) [(0, true)] (by kernel_rfl) (by kernel_rfl) ?_
    refine yS (by kernel_rfl : opAt F3.o5 0 = some (some 52, .binOp .lss 3 (.tmp 51) (.tmp 50) 3, none)) rfl rfl (fun w' hS => val_lss rfl rfl) ?_
    refine Sch.nil ?_
    refine run_seq (x := F3.c20) (y := F3.c23) (by kernel_rfl) ?_
    refine run_if (x := F3.c21) (y := F3.c22) (o := .tmp 52) (by kernel_rfl) rfl (fun h52 => ?_) (fun h52 => ?_)
    · skip
      have hil : i1 < xs.length := by omega
      refine run_skip (by kernel_rfl) ?_
      refine run_seq (x := F3.c24) (y := F3.c81) (by kernel_rfl) ?_
      refine run_block (x := F3.c25) (id := 1) (by kernel_rfl) ?_
      refine run_seq (x := F3.c26) (y := F3.c27) (by kernel_rfl) ?_
      refine run_plain (id := 6) (ops := F3.o6) [(0, true), (1, false), (2, true)] (by kernel_rfl) (by kernel_rfl) ?_
      refine iS (e := 23) (by kernel_rfl : opAt F3.o6 0 = some (some 53, .indexAddr 34 (.tmp 49) (.tmp 51), none)) rfl rfl g49 rfl (by kernel_rfl) rfl (by omega) (by omega) ?_
      intro b53 o53 h53
      try simp only [Int.toNat_natCast] at h53
      refine lN (by kernel_rfl : opAt F3.o6 1 = some (some 54, .load 23 (.tmp 53), none)) rfl rfl trivial h53 (by kernel_rfl) rfl rfl ?_
      intro v54 g54
      obtain ⟨X, hX⟩ : ∃ X, X = xs[i1] := ⟨_, rfl⟩
      rw [← hX] at g54
      have hXl : X.length ≤ 4097 := by rw [hX]; exact hxa _ (List.getElem_mem _)
      refine yS (by kernel_rfl : opAt F3.o6 2 = some (some 11, .assign (.tmp 54), none)) rfl rfl (fun w' hS => val_assign rfl) ?_
      refine Sch.nil ?_
      refine run_seq (x := F3.c28) (y := F3.c35) (by kernel_rfl) ?_
      refine run_seq (x := F3.c29) (y := F3.c30) (by kernel_rfl) ?_
      refine run_plain (id := 7) (ops := F3.o7) [(0, true), (1, false), (2, true), (3, false), (4, true), (5, true), (6, true), (7, false), (8, true), (9, false), (10, false), (11, true), (12, true)] (by kernel_rfl) (by kernel_rfl) ?_
      refine yS (by kernel_rfl : opAt F3.o7 0 = some (some 55, .move (.tmp 11), none)) rfl rfl (fun w' hS => val_move rfl) ?_
      refine cS (by kernel_rfl : opAt F3.o7 1 = some (some 56, .call { callee := .value (.func 14), args := #[(.tmp 55)], argTypes := #[23] }, none)) rfl rfl (ent Try.call14 rfl) (check_ok hF g54) ?_
      rintro vw16 w16 ⟨rfl, hs⟩
      refine ⟨trivial, ?_⟩
      replace hF := hF.st hs
      replace hT := hT.trans hs (by simp)
      replace hls := hls.st hs (by first | decide | (simp <;> omega))
      replace hr := hr.st hs (by first | decide | (simp <;> omega))
      replace g49 := g49.st hs (by first | decide | (simp <;> omega))
      replace h53 := h53.st hs (by first | decide | (simp <;> omega))
      replace g54 := g54.st hs (by first | decide | (simp <;> omega))
      refine yS (by kernel_rfl : opAt F3.o7 2 = some (some 57, .move (.tmp 11), none)) rfl rfl (fun w' hS => val_move rfl) ?_
      refine cS (by kernel_rfl : opAt F3.o7 3 = some (some 58, .call { callee := .value (.func 15), args := #[(.tmp 57)], argTypes := #[23] }, none)) rfl rfl (ent Try.call15 rfl) (refCheck_ok hF g54) ?_
      rintro vw17 w17 ⟨rfl, hs⟩
      refine ⟨trivial, ?_⟩
      replace hF := hF.st hs
      replace hT := hT.trans hs (by simp)
      replace hls := hls.st hs (by first | decide | (simp <;> omega))
      replace hr := hr.st hs (by first | decide | (simp <;> omega))
      replace g49 := g49.st hs (by first | decide | (simp <;> omega))
      replace h53 := h53.st hs (by first | decide | (simp <;> omega))
      replace g54 := g54.st hs (by first | decide | (simp <;> omega))
      refine yS (by kernel_rfl : opAt F3.o7 4 = some (some 59, .binOp .neq 35 (.tmp 56) (.tmp 58) 35, none)) rfl rfl (fun w' hS => val_F (val_neq rfl rfl) (fun e => e rfl)) ?_
      refine yS (by kernel_rfl : opAt F3.o7 5 = some (some 60, .move (.tmp 59), none)) rfl rfl (fun w' hS => val_move rfl) ?_
      refine yS (by kernel_rfl : opAt F3.o7 6 = some (some 61, .move (.tmp 11), (some (5, false)))) rfl rfl (fun w' hS => val_move rfl) ?_
      refine cS (by kernel_rfl : opAt F3.o7 7 = some (some 62, .call { callee := .value (.func 17), args := #[(.tmp 61)], argTypes := #[23] }, (some (5, false)))) rfl rfl (ent Try.call17 rfl) (refs_ok hF g54 (by omega)) ?_
      rintro vr1 w18 ⟨hs, hr1⟩
      refine ⟨trivial, ?_⟩
      replace hF := hF.st hs
      replace hT := hT.trans hs (by simp)
      replace hls := hls.st hs (by first | decide | (simp <;> omega))
      replace hr := hr.st hs (by first | decide | (simp <;> omega))
      replace g49 := g49.st hs (by first | decide | (simp <;> omega))
      replace h53 := h53.st hs (by first | decide | (simp <;> omega))
      replace g54 := g54.st hs (by first | decide | (simp <;> omega))
      refine yS (by kernel_rfl : opAt F3.o7 8 = some (some 63, .move (.tmp 11), (some (5, false)))) rfl rfl (fun w' hS => val_move rfl) ?_
      refine cS (by kernel_rfl : opAt F3.o7 9 = some (some 64, .call { callee := .value (.func 18), args := #[(.tmp 63)], argTypes := #[23] }, (some (5, false)))) rfl rfl (ent Try.call18 rfl) (refRefs_ok hF g54 (by omega)) ?_
      rintro vr2 w19 ⟨hs, hr2⟩
      refine ⟨trivial, ?_⟩
      replace hF := hF.st hs
      replace hT := hT.trans hs (by simp)
      replace hls := hls.st hs (by first | decide | (simp <;> omega))
      replace hr := hr.st hs (by first | decide | (simp <;> omega))
      replace g49 := g49.st hs (by first | decide | (simp <;> omega))
      replace h53 := h53.st hs (by first | decide | (simp <;> omega))
      replace g54 := g54.st hs (by first | decide | (simp <;> omega))
      replace hr1 := hr1.st hs (by first | decide | (simp <;> omega))
      refine cS (by kernel_rfl : opAt F3.o7 10 = some (some 65, .call { callee := .value (.func 16), args := #[(.tmp 62), (.tmp 64)], argTypes := #[38, 38] }, (some (5, false)))) rfl rfl (ent Try.call16 rfl) (sameRefs_ok hF hr1 hr2) ?_
      rintro vw20 w20 ⟨rfl, hs⟩
      refine ⟨trivial, ?_⟩
      replace hF := hF.st hs
      replace hT := hT.trans hs (by simp)
      replace hls := hls.st hs (by first | decide | (simp <;> omega))
      replace hr := hr.st hs (by first | decide | (simp <;> omega))
      replace g49 := g49.st hs (by first | decide | (simp <;> omega))
      replace h53 := h53.st hs (by first | decide | (simp <;> omega))
      replace g54 := g54.st hs (by first | decide | (simp <;> omega))
      replace hr1 := hr1.st hs (by first | decide | (simp <;> omega))
      replace hr2 := hr2.st hs (by first | decide | (simp <;> omega))
      refine yS (by kernel_rfl : opAt F3.o7 11 = some (some 66, .unOp .not 4 (.tmp 65), (some (5, false)))) rfl rfl (fun w' hS => val_not rfl) ?_
      refine yS (by kernel_rfl : opAt F3.o7 12 = some (some 67, .pick (.tmp 60) (.const (.bool true)) (.tmp 66), none)) rfl rfl (fun w' hS => val_pick_f rfl rfl) ?_
      refine Sch.nil ?_
      refine run_cond (x := F3.c31) (y := F3.c34) (o := .tmp 67) (b := false) (by kernel_rfl) rfl (fun h => by cases h) (fun _ => ?_)
      refine run_skip (by kernel_rfl) ?_
      refine run_seq (x := F3.c36) (y := F3.c37) (by kernel_rfl) ?_
      refine run_plain (id := 9) (ops := F3.o9) [(0, true), (1, false), (2, true), (3, true), (4, true), (5, true), (6, true)] (by kernel_rfl) (by kernel_rfl) ?_
      refine yS (by kernel_rfl : opAt F3.o9 0 = some (some 69, .move (.tmp 11), none)) rfl rfl (fun w' hS => val_move rfl) ?_
      refine cS (by kernel_rfl : opAt F3.o9 1 = some (some 70, .call { callee := .value (.func 19), args := #[(.tmp 69)], argTypes := #[23] }, none)) rfl rfl (ent Try.call19 rfl) (of_ok hF g54 (by omega)) ?_
      rintro vw21 w21 ⟨u1, rfl, hs, _, hp⟩
      refine ⟨trivial, ?_⟩
      replace hF := hF.st hs
      replace hT := hT.trans hs (by simp)
      replace hls := hls.st hs (by first | decide | (simp <;> omega))
      replace hr := hr.st hs (by first | decide | (simp <;> omega))
      replace g49 := g49.st hs (by first | decide | (simp <;> omega))
      replace h53 := h53.st hs (by first | decide | (simp <;> omega))
      replace g54 := g54.st hs (by first | decide | (simp <;> omega))
      replace hr1 := hr1.st hs (by first | decide | (simp <;> omega))
      replace hr2 := hr2.st hs (by first | decide | (simp <;> omega))
      obtain ⟨PX, hPX⟩ : ∃ p, p = (if checkS X = 0 then partsS X else []) := ⟨_, rfl⟩
      rw [← hPX] at hp
      refine yS (by kernel_rfl : opAt F3.o9 2 = some (some 68, .move (.tmp 70), none)) rfl rfl (fun w' hS => val_move rfl) ?_
      refine yS (by kernel_rfl : opAt F3.o9 3 = some (some 71, .extract (.tmp 68) 0, none)) rfl rfl (fun w' hS => val_extract rfl rfl) ?_
      refine yS (by kernel_rfl : opAt F3.o9 4 = some (some 72, .extract (.tmp 68) 1, none)) rfl rfl (fun w' hS => val_extract rfl rfl) ?_
      refine yS (by kernel_rfl : opAt F3.o9 5 = some (some 12, .assign (.tmp 71), none)) rfl rfl (fun w' hS => val_assign rfl) ?_
      refine yS (by kernel_rfl : opAt F3.o9 6 = some (some 13, .assign (.tmp 72), none)) rfl rfl (fun w' hS => val_assign rfl) ?_
      refine Sch.nil ?_
      refine run_seq (x := F3.c38) (y := F3.c39) (by kernel_rfl) ?_
      refine run_plain (id := 10) (ops := F3.o10) [(0, true), (1, false), (2, true), (3, true), (4, true), (5, true), (6, true)] (by kernel_rfl) (by kernel_rfl) ?_
      refine yS (by kernel_rfl : opAt F3.o10 0 = some (some 74, .move (.tmp 11), none)) rfl rfl (fun w' hS => val_move rfl) ?_
      refine cS (by kernel_rfl : opAt F3.o10 1 = some (some 75, .call { callee := .value (.func 20), args := #[(.tmp 74)], argTypes := #[23] }, none)) rfl rfl (ent Try.call20 rfl) (refOf_ok hF g54 (by omega)) ?_
      rintro vw22 w22 ⟨u2, rfl, hs, hq⟩
      refine ⟨trivial, ?_⟩
      replace hF := hF.st hs
      replace hT := hT.trans hs (by simp)
      replace hls := hls.st hs (by first | decide | (simp <;> omega))
      replace hr := hr.st hs (by first | decide | (simp <;> omega))
      replace g49 := g49.st hs (by first | decide | (simp <;> omega))
      replace h53 := h53.st hs (by first | decide | (simp <;> omega))
      replace g54 := g54.st hs (by first | decide | (simp <;> omega))
      replace hr1 := hr1.st hs (by first | decide | (simp <;> omega))
      replace hr2 := hr2.st hs (by first | decide | (simp <;> omega))
      replace hp := hp.st hs (by first | decide | (simp <;> omega))
      rw [← hPX] at hq
      refine yS (by kernel_rfl : opAt F3.o10 2 = some (some 73, .move (.tmp 75), none)) rfl rfl (fun w' hS => val_move rfl) ?_
      refine yS (by kernel_rfl : opAt F3.o10 3 = some (some 76, .extract (.tmp 73) 0, none)) rfl rfl (fun w' hS => val_extract rfl rfl) ?_
      refine yS (by kernel_rfl : opAt F3.o10 4 = some (some 77, .extract (.tmp 73) 1, none)) rfl rfl (fun w' hS => val_extract rfl rfl) ?_
      refine yS (by kernel_rfl : opAt F3.o10 5 = some (some 14, .assign (.tmp 76), none)) rfl rfl (fun w' hS => val_assign rfl) ?_
      refine yS (by kernel_rfl : opAt F3.o10 6 = some (some 15, .assign (.tmp 77), none)) rfl rfl (fun w' hS => val_assign rfl) ?_
      refine Sch.nil ?_
      refine run_seq (x := F3.c40) (y := F3.c47) (by kernel_rfl) ?_
      refine run_seq (x := F3.c41) (y := F3.c42) (by kernel_rfl) ?_
      refine run_draw (id := 11) (ops := F3.o11) [] (C1) [(0, true), (1, true), (2, true), (3, true), (4, true), (5, true), (6, false), (7, true), (8, true), (9, true), (10, true), (11, true), (13, true), (14, true), (12, false), (15, false), (16, true), (17, true), (18, true), (19, true), (20, true), (22, true), (23, true), (21, false), (24, false), (25, true), (26, true)] Try_mixed (by kernel_rfl) (by kernel_rfl) (by kernel_rfl) ?_
      intro w23 hs
      replace hF := hF.st hs
      replace hT := hT.trans hs (by simp)
      replace hls := hls.st hs (by first | decide | (simp <;> omega))
      replace hr := hr.st hs (by first | decide | (simp <;> omega))
      replace g49 := g49.st hs (by first | decide | (simp <;> omega))
      replace h53 := h53.st hs (by first | decide | (simp <;> omega))
      replace g54 := g54.st hs (by first | decide | (simp <;> omega))
      replace hr1 := hr1.st hs (by first | decide | (simp <;> omega))
      replace hr2 := hr2.st hs (by first | decide | (simp <;> omega))
      replace hp := hp.st hs (by first | decide | (simp <;> omega))
      replace hq := hq.st hs (by first | decide | (simp <;> omega))
      have hR := Stp.refl [] w23 (C1)
      have hr0 := hr
      refine yS (by kernel_rfl : opAt F3.o11 0 = some (some 78, .move (.tmp 13), none)) rfl rfl (fun w' hS => val_move rfl) ?_
      refine yS (by kernel_rfl : opAt F3.o11 1 = some (some 79, .move (.tmp 15), none)) rfl rfl (fun w' hS => val_move rfl) ?_
      refine yS (by kernel_rfl : opAt F3.o11 2 = some (some 80, .binOp .neq 35 (.tmp 78) (.tmp 79) 35, none)) rfl rfl (fun w' hS => val_F (val_neq rfl rfl) (fun e => e rfl)) ?_
      refine yS (by kernel_rfl : opAt F3.o11 3 = some (some 81, .move (.tmp 80), none)) rfl rfl (fun w' hS => val_move rfl) ?_
      refine yS (by kernel_rfl : opAt F3.o11 4 = some (some 82, .move (.tmp 12), (some (3, false)))) rfl rfl (fun w' hS => val_move rfl) ?_
      refine yS (by kernel_rfl : opAt F3.o11 5 = some (some 83, .move (.tmp 14), (some (3, false)))) rfl rfl (fun w' hS => val_move rfl) ?_
      refine cS (by kernel_rfl : opAt F3.o11 6 = some (some 84, .call { callee := .value (.func 21), args := #[(.tmp 82), (.tmp 83)], argTypes := #[26, 26] }, (some (3, false)))) rfl rfl (ent Try.call21 rfl) (sameParts_ok hF hp hq) ?_
      rintro vw24 w24 ⟨rfl, hs⟩
      refine ⟨(hR.trans hs (by simp)).ext, ?_⟩
      replace hF := hF.st hs
      replace hT := hT.trans hs (by simp)
      replace hls := hls.st hs (by first | decide | (simp <;> omega))
      replace hr := hr.st hs (by first | decide | (simp <;> omega))
      replace g49 := g49.st hs (by first | decide | (simp <;> omega))
      replace h53 := h53.st hs (by first | decide | (simp <;> omega))
      replace g54 := g54.st hs (by first | decide | (simp <;> omega))
      replace hr1 := hr1.st hs (by first | decide | (simp <;> omega))
      replace hr2 := hr2.st hs (by first | decide | (simp <;> omega))
      replace hp := hp.st hs (by first | decide | (simp <;> omega))
      replace hq := hq.st hs (by first | decide | (simp <;> omega))
      replace hR := hR.trans hs (by simp)
      refine yS (by kernel_rfl : opAt F3.o11 7 = some (some 85, .unOp .not 4 (.tmp 84), (some (3, false)))) rfl rfl (fun w' hS => val_not rfl) ?_
      refine yS (by kernel_rfl : opAt F3.o11 8 = some (some 86, .pick (.tmp 81) (.const (.bool true)) (.tmp 85), none)) rfl rfl (fun w' hS => val_pick_f rfl rfl) ?_
      refine yS (by kernel_rfl : opAt F3.o11 9 = some (some 87, .move (.tmp 86), none)) rfl rfl (fun w' hS => val_move rfl) ?_
      refine yS (by kernel_rfl : opAt F3.o11 10 = some (some 88, .move (.tmp 14), (some (9, false)))) rfl rfl (fun w' hS => val_move rfl) ?_
      refine yS (by kernel_rfl : opAt F3.o11 11 = some (some 89, .load 25 (.tmp 6), (some (9, false)))) rfl rfl (fun w' hS => val_loadOwnAgg (n := 2) (vs := encR r) (hr0.stay hS (by decide)) (by kernel_rfl) (by kernel_rfl) rfl rfl rfl) ?_
      refine yS (by kernel_rfl : opAt F3.o11 13 = some (some 91, .move (.tmp 14), (some (9, false)))) rfl rfl (fun w' hS => val_move rfl) ?_
      refine yS (by kernel_rfl : opAt F3.o11 14 = some (some 92, .load 25 (.tmp 6), (some (9, false)))) rfl rfl (fun w' hS => val_loadOwnAgg (n := 2) (vs := encR r) (hr0.stay hS (by decide)) (by kernel_rfl) (by kernel_rfl) rfl rfl rfl) ?_
      refine cS (by kernel_rfl : opAt F3.o11 12 = some (some 90, .call { callee := .value (.func 22), args := #[(.tmp 88), (.tmp 89)], argTypes := #[26, 25] }, (some (9, false)))) rfl rfl (ent Try.call22 rfl) (find_ok (c := r) hF hq) ?_
      rintro vw25 w25 ⟨rfl, hs⟩
      refine ⟨(hR.trans hs (by simp)).ext, ?_⟩
      replace hF := hF.st hs
      replace hT := hT.trans hs (by simp)
      replace hls := hls.st hs (by first | decide | (simp <;> omega))
      replace hr := hr.st hs (by first | decide | (simp <;> omega))
      replace g49 := g49.st hs (by first | decide | (simp <;> omega))
      replace h53 := h53.st hs (by first | decide | (simp <;> omega))
      replace g54 := g54.st hs (by first | decide | (simp <;> omega))
      replace hr1 := hr1.st hs (by first | decide | (simp <;> omega))
      replace hr2 := hr2.st hs (by first | decide | (simp <;> omega))
      replace hp := hp.st hs (by first | decide | (simp <;> omega))
      replace hq := hq.st hs (by first | decide | (simp <;> omega))
      replace hR := hR.trans hs (by simp)
      refine cS (by kernel_rfl : opAt F3.o11 15 = some (some 93, .call { callee := .value (.func 23), args := #[(.tmp 91), (.tmp 92)], argTypes := #[26, 25] }, (some (9, false)))) rfl rfl (ent Try.call23 rfl) (refFind_ok (c := r) hF hq) ?_
      rintro vw26 w26 ⟨rfl, hs⟩
      refine ⟨(hR.trans hs (by simp)).ext, ?_⟩
      replace hF := hF.st hs
      replace hT := hT.trans hs (by simp)
      replace hls := hls.st hs (by first | decide | (simp <;> omega))
      replace hr := hr.st hs (by first | decide | (simp <;> omega))
      replace g49 := g49.st hs (by first | decide | (simp <;> omega))
      replace h53 := h53.st hs (by first | decide | (simp <;> omega))
      replace g54 := g54.st hs (by first | decide | (simp <;> omega))
      replace hr1 := hr1.st hs (by first | decide | (simp <;> omega))
      replace hr2 := hr2.st hs (by first | decide | (simp <;> omega))
      replace hp := hp.st hs (by first | decide | (simp <;> omega))
      replace hq := hq.st hs (by first | decide | (simp <;> omega))
      replace hR := hR.trans hs (by simp)
      refine yS (by kernel_rfl : opAt F3.o11 16 = some (some 94, .binOp .neq 3 (.tmp 90) (.tmp 93) 3, (some (9, false)))) rfl rfl (fun w' hS => val_F (val_neq rfl rfl) (fun e => e rfl)) ?_
      refine yS (by kernel_rfl : opAt F3.o11 17 = some (some 95, .pick (.tmp 87) (.const (.bool true)) (.tmp 94), none)) rfl rfl (fun w' hS => val_pick_f rfl rfl) ?_
      refine yS (by kernel_rfl : opAt F3.o11 18 = some (some 96, .move (.tmp 95), none)) rfl rfl (fun w' hS => val_move rfl) ?_
      refine yS (by kernel_rfl : opAt F3.o11 19 = some (some 97, .move (.tmp 3), (some (18, false)))) rfl rfl (fun w' hS => val_move rfl) ?_
      refine yS (by kernel_rfl : opAt F3.o11 20 = some (some 98, .load 25 (.tmp 6), (some (18, false)))) rfl rfl (fun w' hS => val_loadOwnAgg (n := 2) (vs := encR r) (hr0.stay hS (by decide)) (by kernel_rfl) (by kernel_rfl) rfl rfl rfl) ?_
      refine yS (by kernel_rfl : opAt F3.o11 22 = some (some 100, .move (.tmp 3), (some (18, false)))) rfl rfl (fun w' hS => val_move rfl) ?_
      refine yS (by kernel_rfl : opAt F3.o11 23 = some (some 101, .load 25 (.tmp 6), (some (18, false)))) rfl rfl (fun w' hS => val_loadOwnAgg (n := 2) (vs := encR r) (hr0.stay hS (by decide)) (by kernel_rfl) (by kernel_rfl) rfl rfl rfl) ?_
      refine cS (by kernel_rfl : opAt F3.o11 21 = some (some 99, .call { callee := .value (.func 22), args := #[(.tmp 97), (.tmp 98)], argTypes := #[26, 25] }, (some (18, false)))) rfl rfl (ent Try.call22 rfl) (find_ok (c := r) hF hls) ?_
      rintro vw27 w27 ⟨rfl, hs⟩
      refine ⟨(hR.trans hs (by simp)).ext, ?_⟩
      replace hF := hF.st hs
      replace hT := hT.trans hs (by simp)
      replace hls := hls.st hs (by first | decide | (simp <;> omega))
      replace hr := hr.st hs (by first | decide | (simp <;> omega))
      replace g49 := g49.st hs (by first | decide | (simp <;> omega))
      replace h53 := h53.st hs (by first | decide | (simp <;> omega))
      replace g54 := g54.st hs (by first | decide | (simp <;> omega))
      replace hr1 := hr1.st hs (by first | decide | (simp <;> omega))
      replace hr2 := hr2.st hs (by first | decide | (simp <;> omega))
      replace hp := hp.st hs (by first | decide | (simp <;> omega))
      replace hq := hq.st hs (by first | decide | (simp <;> omega))
      replace hR := hR.trans hs (by simp)
      refine cS (by kernel_rfl : opAt F3.o11 24 = some (some 102, .call { callee := .value (.func 23), args := #[(.tmp 100), (.tmp 101)], argTypes := #[26, 25] }, (some (18, false)))) rfl rfl (ent Try.call23 rfl) (refFind_ok (c := r) hF hls) ?_
      rintro vw28 w28 ⟨rfl, hs⟩
      refine ⟨(hR.trans hs (by simp)).ext, ?_⟩
      replace hF := hF.st hs
      replace hT := hT.trans hs (by simp)
      replace hls := hls.st hs (by first | decide | (simp <;> omega))
      replace hr := hr.st hs (by first | decide | (simp <;> omega))
      replace g49 := g49.st hs (by first | decide | (simp <;> omega))
      replace h53 := h53.st hs (by first | decide | (simp <;> omega))
      replace g54 := g54.st hs (by first | decide | (simp <;> omega))
      replace hr1 := hr1.st hs (by first | decide | (simp <;> omega))
      replace hr2 := hr2.st hs (by first | decide | (simp <;> omega))
      replace hp := hp.st hs (by first | decide | (simp <;> omega))
      replace hq := hq.st hs (by first | decide | (simp <;> omega))
      replace hR := hR.trans hs (by simp)
      refine yS (by kernel_rfl : opAt F3.o11 25 = some (some 103, .binOp .neq 3 (.tmp 99) (.tmp 102) 3, (some (18, false)))) rfl rfl (fun w' hS => val_F (val_neq rfl rfl) (fun e => e rfl)) ?_
      refine yS (by kernel_rfl : opAt F3.o11 26 = some (some 104, .pick (.tmp 96) (.const (.bool true)) (.tmp 103), none)) rfl rfl (fun w' hS => val_pick_f rfl rfl) ?_
      refine Sch.nil ?_
      refine run_cond (x := F3.c43) (y := F3.c46) (o := .tmp 104) (b := false) (by kernel_rfl) rfl (fun h => by cases h) (fun _ => ?_)
      refine run_skip (by kernel_rfl) ?_
      refine run_seq (x := F3.c48) (y := F3.c49) (by kernel_rfl) ?_
      refine run_plain (id := 13) (ops := F3.o13) [(0, true), (1, false), (2, true), (3, true), (4, true), (5, true), (6, true)] (by kernel_rfl) (by kernel_rfl) ?_
      refine yS (by kernel_rfl : opAt F3.o13 0 = some (some 106, .move (.tmp 11), none)) rfl rfl (fun w' hS => val_move rfl) ?_
      refine cS (by kernel_rfl : opAt F3.o13 1 = some (some 107, .call { callee := .value (.func 24), args := #[(.tmp 106)], argTypes := #[23] }, none)) rfl rfl (ent Try.call24 rfl) (split_ok hF g54 (by omega)) ?_
      rintro vw29 w29 ⟨u3, rfl, hs, hsp⟩
      refine ⟨trivial, ?_⟩
      replace hF := hF.st hs
      replace hT := hT.trans hs (by simp)
      replace hls := hls.st hs (by first | decide | (simp <;> omega))
      replace hr := hr.st hs (by first | decide | (simp <;> omega))
      replace g49 := g49.st hs (by first | decide | (simp <;> omega))
      replace h53 := h53.st hs (by first | decide | (simp <;> omega))
      replace g54 := g54.st hs (by first | decide | (simp <;> omega))
      replace hr1 := hr1.st hs (by first | decide | (simp <;> omega))
      replace hr2 := hr2.st hs (by first | decide | (simp <;> omega))
      replace hp := hp.st hs (by first | decide | (simp <;> omega))
      replace hq := hq.st hs (by first | decide | (simp <;> omega))
      obtain ⟨SX, hSX⟩ : ∃ p, p = (if checkS X = 0 then splitS X else []) := ⟨_, rfl⟩
      rw [← hSX] at hsp
      refine yS (by kernel_rfl : opAt F3.o13 2 = some (some 105, .move (.tmp 107), none)) rfl rfl (fun w' hS => val_move rfl) ?_
      refine yS (by kernel_rfl : opAt F3.o13 3 = some (some 108, .extract (.tmp 105) 0, none)) rfl rfl (fun w' hS => val_extract rfl rfl) ?_
      refine yS (by kernel_rfl : opAt F3.o13 4 = some (some 109, .extract (.tmp 105) 1, none)) rfl rfl (fun w' hS => val_extract rfl rfl) ?_
      refine yS (by kernel_rfl : opAt F3.o13 5 = some (some 16, .assign (.tmp 108), none)) rfl rfl (fun w' hS => val_assign rfl) ?_
      refine yS (by kernel_rfl : opAt F3.o13 6 = some (some 17, .assign (.tmp 109), none)) rfl rfl (fun w' hS => val_assign rfl) ?_
      refine Sch.nil ?_
      refine run_seq (x := F3.c50) (y := F3.c51) (by kernel_rfl) ?_
      refine run_plain (id := 14) (ops := F3.o14) [(0, true), (1, false), (2, true), (3, true), (4, true), (5, true), (6, true)] (by kernel_rfl) (by kernel_rfl) ?_
      refine yS (by kernel_rfl : opAt F3.o14 0 = some (some 111, .move (.tmp 11), none)) rfl rfl (fun w' hS => val_move rfl) ?_
      refine cS (by kernel_rfl : opAt F3.o14 1 = some (some 112, .call { callee := .value (.func 25), args := #[(.tmp 111)], argTypes := #[23] }, none)) rfl rfl (ent Try.call25 rfl) (refSplit_ok hF g54 (by omega)) ?_
      rintro vw30 w30 ⟨u4, rfl, hs, hsq⟩
      refine ⟨trivial, ?_⟩
      replace hF := hF.st hs
      replace hT := hT.trans hs (by simp)
      replace hls := hls.st hs (by first | decide | (simp <;> omega))
      replace hr := hr.st hs (by first | decide | (simp <;> omega))
      replace g49 := g49.st hs (by first | decide | (simp <;> omega))
      replace h53 := h53.st hs (by first | decide | (simp <;> omega))
      replace g54 := g54.st hs (by first | decide | (simp <;> omega))
      replace hr1 := hr1.st hs (by first | decide | (simp <;> omega))
      replace hr2 := hr2.st hs (by first | decide | (simp <;> omega))
      replace hp := hp.st hs (by first | decide | (simp <;> omega))
      replace hq := hq.st hs (by first | decide | (simp <;> omega))
      replace hsp := hsp.st hs (by first | decide | (simp <;> omega))
      rw [← hSX] at hsq
      refine yS (by kernel_rfl : opAt F3.o14 2 = some (some 110, .move (.tmp 112), none)) rfl rfl (fun w' hS => val_move rfl) ?_
      refine yS (by kernel_rfl : opAt F3.o14 3 = some (some 113, .extract (.tmp 110) 0, none)) rfl rfl (fun w' hS => val_extract rfl rfl) ?_
      refine yS (by kernel_rfl : opAt F3.o14 4 = some (some 114, .extract (.tmp 110) 1, none)) rfl rfl (fun w' hS => val_extract rfl rfl) ?_
      refine yS (by kernel_rfl : opAt F3.o14 5 = some (some 18, .assign (.tmp 113), none)) rfl rfl (fun w' hS => val_assign rfl) ?_
      refine yS (by kernel_rfl : opAt F3.o14 6 = some (some 19, .assign (.tmp 114), none)) rfl rfl (fun w' hS => val_assign rfl) ?_
      refine Sch.nil ?_
      refine run_seq (x := F3.c52) (y := F3.c59) (by kernel_rfl) ?_
      refine run_seq (x := F3.c53) (y := F3.c54) (by kernel_rfl) ?_
      refine run_plain (id := 15) (ops := F3.o15) [(0, true), (1, true), (2, true), (3, true), (4, true), (5, true), (6, true), (7, true), (8, true), (9, true)] (by kernel_rfl) (by kernel_rfl) ?_
      refine yS (by kernel_rfl : opAt F3.o15 0 = some (some 115, .move (.tmp 17), none)) rfl rfl (fun w' hS => val_move rfl) ?_
      refine yS (by kernel_rfl : opAt F3.o15 1 = some (some 116, .move (.tmp 19), none)) rfl rfl (fun w' hS => val_move rfl) ?_
      refine yS (by kernel_rfl : opAt F3.o15 2 = some (some 117, .binOp .neq 35 (.tmp 115) (.tmp 116) 35, none)) rfl rfl (fun w' hS => val_F (val_neq rfl rfl) (fun e => e rfl)) ?_
      refine yS (by kernel_rfl : opAt F3.o15 3 = some (some 118, .move (.tmp 117), none)) rfl rfl (fun w' hS => val_move rfl) ?_
      refine yS (by kernel_rfl : opAt F3.o15 4 = some (some 119, .move (.tmp 16), (some (3, false)))) rfl rfl (fun w' hS => val_move rfl) ?_
      refine yS (by kernel_rfl : opAt F3.o15 5 = some (some 120, .call { callee := .builtin .len, args := #[(.tmp 119)], argTypes := #[34] }, (some (3, false)))) rfl rfl (fun w' hS => hsp.lenV rfl Try.underlying34 w' ) ?_
      refine yS (by kernel_rfl : opAt F3.o15 6 = some (some 121, .move (.tmp 18), (some (3, false)))) rfl rfl (fun w' hS => val_move rfl) ?_
      refine yS (by kernel_rfl : opAt F3.o15 7 = some (some 122, .call { callee := .builtin .len, args := #[(.tmp 121)], argTypes := #[34] }, (some (3, false)))) rfl rfl (fun w' hS => hsq.lenV rfl Try.underlying34 w' ) ?_
      refine yS (by kernel_rfl : opAt F3.o15 8 = some (some 123, .binOp .neq 3 (.tmp 120) (.tmp 122) 3, (some (3, false)))) rfl rfl (fun w' hS => val_F (val_neq rfl rfl) (fun e => e rfl)) ?_
      refine yS (by kernel_rfl : opAt F3.o15 9 = some (some 124, .pick (.tmp 118) (.const (.bool true)) (.tmp 123), none)) rfl rfl (fun w' hS => val_pick_f rfl rfl) ?_
      refine Sch.nil ?_
      refine run_cond (x := F3.c55) (y := F3.c58) (o := .tmp 124) (b := false) (by kernel_rfl) rfl (fun h => by cases h) (fun _ => ?_)
      refine run_skip (by kernel_rfl) ?_
      refine run_seq (x := F3.c60) (y := F3.c61) (by kernel_rfl) ?_
      refine run_plain (id := 17) (ops := F3.o17) [(0, true), (1, true), (2, true)] (by kernel_rfl) (by kernel_rfl) ?_
      refine yS (by kernel_rfl : opAt F3.o17 0 = some (some 125, .move (.tmp 16), none)) rfl rfl (fun w' hS => val_move rfl) ?_
      refine yS (by kernel_rfl : opAt F3.o17 1 = some (some 126, .call { callee := .builtin .len, args := #[(.tmp 125)], argTypes := #[34] }, none)) rfl rfl (fun w' hS => hsp.lenV rfl Try.underlying34 w' ) ?_
      refine yS (by kernel_rfl : opAt F3.o17 2 = some (some 127, .move (.const (.int .i64 0)), none)) rfl rfl (fun w' hS => val_move rfl) ?_
      refine Sch.nil ?_
      refine run_block (x := F3.c62) (id := 2) (by kernel_rfl) ?_
      have hsxl := hsp.le
      refine run_loop (ι := Nat × (Nat → Nat)) (I := fun x w => x.1 ≤ SX.length ∧ Lim w x.2 ∧ Stp [2, 3, 4, 5, 6, 7, 8, 9] w₀ (col1 C) w x.2 ∧ RV w (Mc x.2) lists vls ∧ OwnB w x.2 4 bw1 (.cells (encR r).toArray 25) ∧ RV w (Mc x.2) xs v49 ∧ RV w (Mc x.2) SX u3 ∧ RV w (Mc x.2) SX u4) (e := fun x => [(3, vls), (6, .pointer (some ⟨bw1, 0, none⟩)), (16, u3), (18, u4), (49, v49), (50, .int .i64 xs.length), (51, .int .i64 i1), (126, .int .i64 SX.length), (127, .int .i64 x.1)]) (m := fun x => SX.length - x.1) (x₀ := (0, C1)) (body := F3.c63) (by kernel_rfl) (sub_cons 3 rfl rfl (sub_cons 6 rfl rfl (sub_cons 16 rfl rfl (sub_cons 18 rfl rfl (sub_cons 49 rfl rfl (sub_cons 50 rfl rfl (sub_cons 51 rfl rfl (sub_cons 126 rfl rfl (sub_cons 127 rfl rfl (sub_nil _)))))))))) ?_ ?_
      · exact ⟨Nat.zero_le _, hF, hT, hls, hr, g49, hsp, hsq⟩
      intro ⟨i2, C1⟩ w31 hI next
      obtain ⟨hi2, hF, hT, hls, hr, g49, hsp, hsq⟩ := hI
      try simp only at hi2 hF hT hls hr g49 hsp hsq
      have next2 := next
      clear next
      show Run _ _ _ _ [(3, vls), (6, .pointer (some ⟨bw1, 0, none⟩)), (16, u3), (18, u4), (49, v49), (50, .int .i64 xs.length), (51, .int .i64 i1), (126, .int .i64 SX.length), (127, .int .i64 i2)] _ _
      refine run_seq (x := F3.c64) (y := F3.c65) (by kernel_rfl) ?_
      refine run_plain (id := 18) (ops := F3.o18) [(0, true)] (by kernel_rfl) (by kernel_rfl) ?_
      refine yS (by kernel_rfl : opAt F3.o18 0 = some (some 128, .binOp .lss 3 (.tmp 127) (.tmp 126) 3, none)) rfl rfl (fun w' hS => val_lss rfl rfl) ?_
      refine Sch.nil ?_
      refine run_seq (x := F3.c66) (y := F3.c69) (by kernel_rfl) ?_
      refine run_if (x := F3.c67) (y := F3.c68) (o := .tmp 128) (by kernel_rfl) rfl (fun h128 => ?_) (fun h128 => ?_)
      · skip
        have hil2 : i2 < SX.length := by omega
        refine run_skip (by kernel_rfl) ?_
        refine run_seq (x := F3.c70) (y := F3.c80) (by kernel_rfl) ?_
        refine run_block (x := F3.c71) (id := 3) (by kernel_rfl) ?_
        refine run_seq (x := F3.c72) (y := F3.c73) (by kernel_rfl) ?_
        refine run_plain (id := 19) (ops := F3.o19) [(0, true), (1, true)] (by kernel_rfl) (by kernel_rfl) ?_
        refine yS (by kernel_rfl : opAt F3.o19 0 = some (some 129, .move (.tmp 127), none)) rfl rfl (fun w' hS => val_move rfl) ?_
        refine yS (by kernel_rfl : opAt F3.o19 1 = some (some 20, .assign (.tmp 129), none)) rfl rfl (fun w' hS => val_assign rfl) ?_
        refine Sch.nil ?_
        refine run_seq (x := F3.c74) (y := F3.c75) (by kernel_rfl) ?_
        refine run_draw (id := 20) (ops := F3.o20) [] (C1) [(0, true), (1, true), (2, true), (3, true), (4, true), (5, true), (6, true), (7, true), (8, false), (9, true)] Try_mixed (by kernel_rfl) (by kernel_rfl) (by kernel_rfl) ?_
        intro w32 hs
        replace hF := hF.st hs
        replace hT := hT.trans hs (by simp)
        replace hls := hls.st hs (by first | decide | (simp <;> omega))
        replace hr := hr.st hs (by first | decide | (simp <;> omega))
        replace g49 := g49.st hs (by first | decide | (simp <;> omega))
        replace hsp := hsp.st hs (by first | decide | (simp <;> omega))
        replace hsq := hsq.st hs (by first | decide | (simp <;> omega))
        have hR := Stp.refl [] w32 (C1)
        refine yS (by kernel_rfl : opAt F3.o20 0 = some (some 130, .move (.tmp 16), none)) rfl rfl (fun w' hS => val_move rfl) ?_
        refine yS (by kernel_rfl : opAt F3.o20 1 = some (some 131, .move (.tmp 20), none)) rfl rfl (fun w' hS => val_move rfl) ?_
        refine iS (e := 23) (by kernel_rfl : opAt F3.o20 2 = some (some 132, .indexAddr 34 (.tmp 130) (.tmp 131), none)) rfl rfl hsp rfl (by kernel_rfl) rfl (by omega) (by omega) ?_
        intro b132 o132 h132
        try simp only [Int.toNat_natCast] at h132
        refine lS (by kernel_rfl : opAt F3.o20 3 = some (some 133, .load 23 (.tmp 132), none)) rfl rfl (fun w' hS => h132.stay hS (by first | decide | (simp <;> omega))) h132 (by kernel_rfl) rfl rfl ?_
        intro v133 g133
        refine yS (by kernel_rfl : opAt F3.o20 4 = some (some 134, .move (.tmp 18), none)) rfl rfl (fun w' hS => val_move rfl) ?_
        refine yS (by kernel_rfl : opAt F3.o20 5 = some (some 135, .move (.tmp 20), none)) rfl rfl (fun w' hS => val_move rfl) ?_
        refine iS (e := 23) (by kernel_rfl : opAt F3.o20 6 = some (some 136, .indexAddr 34 (.tmp 134) (.tmp 135), none)) rfl rfl hsq rfl (by kernel_rfl) rfl (by omega) (by omega) ?_
        intro b136 o136 h136
        try simp only [Int.toNat_natCast] at h136
        refine lS (by kernel_rfl : opAt F3.o20 7 = some (some 137, .load 23 (.tmp 136), none)) rfl rfl (fun w' hS => h136.stay hS (by first | decide | (simp <;> omega))) h136 (by kernel_rfl) rfl rfl ?_
        intro v137 g137
        refine cS (by kernel_rfl : opAt F3.o20 8 = some (some 138, .call { callee := .value (.func 26), args := #[(.tmp 133), (.tmp 137)], argTypes := #[23, 23] }, none)) rfl rfl (ent Try.call26 rfl) (sameBonds_ok hF g133 g137) ?_
        rintro vw33 w33 ⟨rfl, hs⟩
        refine ⟨(hR.trans hs (by simp)).ext, ?_⟩
        replace hF := hF.st hs
        replace hT := hT.trans hs (by simp)
        replace hls := hls.st hs (by first | decide | (simp <;> omega))
        replace hr := hr.st hs (by first | decide | (simp <;> omega))
        replace g49 := g49.st hs (by first | decide | (simp <;> omega))
        replace hsp := hsp.st hs (by first | decide | (simp <;> omega))
        replace hsq := hsq.st hs (by first | decide | (simp <;> omega))
        replace hR := hR.trans hs (by simp)
        replace h132 := h132.st hs (by first | decide | (simp <;> omega))
        replace g133 := g133.st hs (by first | decide | (simp <;> omega))
        replace h136 := h136.st hs (by first | decide | (simp <;> omega))
        replace g137 := g137.st hs (by first | decide | (simp <;> omega))
        refine yS (by kernel_rfl : opAt F3.o20 9 = some (some 139, .unOp .not 4 (.tmp 138), none)) rfl rfl (fun w' hS => val_not rfl) ?_
        refine Sch.nil ?_
        refine run_cond (x := F3.c76) (y := F3.c79) (o := .tmp 139) (b := false) (by kernel_rfl) rfl (fun h => by cases h) (fun _ => ?_)
        refine run_skip (by kernel_rfl) ?_
        refine run_inBlock ?_
        refine run_plain (id := 22) (ops := F3.o22) [(0, true), (1, true)] (by kernel_rfl) (by kernel_rfl) ?_
        refine yS (by kernel_rfl : opAt F3.o22 0 = some (some 140, .binOp .add 3 (.tmp 127) (.const (.int .i64 1)) 3, none)) rfl rfl (fun w' hS => val_addi rfl rfl (by omega) (by omega)) ?_
        refine yS (by kernel_rfl : opAt F3.o22 1 = some (some 127, .move (.tmp 140), none)) rfl rfl (fun w' hS => val_move rfl) ?_
        refine Sch.nil ?_
        refine kp (sub_cons 3 rfl rfl (sub_cons 6 rfl rfl (sub_cons 16 rfl rfl (sub_cons 18 rfl rfl (sub_cons 49 rfl rfl (sub_cons 50 rfl rfl (sub_cons 51 rfl rfl (sub_cons 126 rfl rfl (sub_cons 127 rfl (eq_int (by simp)) (sub_nil _)))))))))) (next2 (i2 + 1, C1) _ ⟨(by first | omega | (simp only; omega)), hF, hT, hls, hr, g49, hsp, hsq⟩ (by first | omega | (simp only; omega)))
      · skip
        refine run_exit (id := 2) (by kernel_rfl) rfl ?_
        refine run_inBlock ?_
        refine run_plain (id := 23) (ops := F3.o23) [(0, true), (1, true)] (by kernel_rfl) (by kernel_rfl) ?_
        refine yS (by kernel_rfl : opAt F3.o23 0 = some (some 141, .binOp .add 3 (.tmp 51) (.const (.int .i64 1)) 3, none)) rfl rfl (fun w' hS => val_addi rfl rfl (by omega) (by omega)) ?_
        refine yS (by kernel_rfl : opAt F3.o23 1 = some (some 51, .move (.tmp 141), none)) rfl rfl (fun w' hS => val_move rfl) ?_
        refine Sch.nil ?_
        refine kp (sub_cons 3 rfl rfl (sub_cons 6 rfl rfl (sub_cons 49 rfl rfl (sub_cons 50 rfl rfl (sub_cons 51 rfl (eq_int (by simp)) (sub_nil _)))))) (next1 (i1 + 1, C1) _ ⟨(by first | omega | (simp only; omega)), hF, hT, hls, hr, g49⟩ (by first | omega | (simp only; omega)))
    · skip
      refine run_exit (id := 0) (by kernel_rfl) rfl ?_
      refine run_seq (x := F3.c83) (y := F3.c84) (by kernel_rfl) ?_
      refine run_plain (id := 24) (ops := F3.o24) [(0, true)] (by kernel_rfl) (by kernel_rfl) ?_
      refine yS (by kernel_rfl : opAt F3.o24 0 = some (some 8, .assign (.const (.bool true)), none)) rfl rfl (fun w' hS => val_assign rfl) ?_
      refine Sch.nil ?_
      refine run_ret1 (by kernel_rfl) Try.func3 Try.results3 rfl ?_
      exact ⟨rfl, hT.out1 (by decide)⟩
end Go.Proofs.Ytfmdkdfhnkennaa

