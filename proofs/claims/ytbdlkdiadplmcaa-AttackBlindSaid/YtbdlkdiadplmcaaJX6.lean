/- Steps through functions of the program. -/
import Derived.Test.YtbdlkdiadplmcaaJX5
import Derived.Test.YtbdlkdiadplmcaaL2
set_option linter.unusedVariables false
set_option linter.unusedSimpArgs false
set_option maxRecDepth 100000
set_option maxHeartbeats 4000000
namespace Go.Proofs.Ytbdlkdiadplmcaa
open Go.K Go.K.Rep

namespace F60
noncomputable def c0 : Code := bodyOf Try.f60
noncomputable def c1 : Code := cl c0
noncomputable def o0 : Array Oper := rops c1
noncomputable def c2 : Code := cr c0
noncomputable def c3 : Code := cl c2
noncomputable def o1 : Array Oper := rops c3
noncomputable def c4 : Code := cr c2
noncomputable def c5 : Code := cl c4
noncomputable def o2 : Array Oper := rops c5
noncomputable def c6 : Code := cr c4
noncomputable def c7 : Code := cl c6
noncomputable def o3 : Array Oper := rops c7
noncomputable def c8 : Code := cr c6
noncomputable def c9 : Code := cl c8
noncomputable def o4 : Array Oper := rops c9
noncomputable def c10 : Code := cr c8
noncomputable def c11 : Code := cl c10
noncomputable def o5 : Array Oper := rops c11
noncomputable def c12 : Code := cr c10
noncomputable def c13 : Code := cl c12
noncomputable def o6 : Array Oper := rops c13
noncomputable def c14 : Code := cr c12
noncomputable def c15 : Code := cl c14
noncomputable def o7 : Array Oper := rops c15
noncomputable def c16 : Code := cr c14
end F60
theorem ones_ok (x : Int) (w : World) : Calls Try.prog 60 #[.int .u64 x] w (Ret fun v w' => v = .int .i64 (onesS x) ∧ w' = w) := by
  refine calls_start (c := F60.c0) (N := 35) [.int .u64 x] Try.func60 (by kernel_rfl) (by kernel_rfl) (by kernel_rfl) ?_
  show Run _ _ _ _ [(0, .int .u64 x)] _ _
  refine run_seq (x := F60.c1) (y := F60.c2) (by kernel_rfl) ?_
  refine run_plain (id := 0) (ops := F60.o0) [(0, true)] (by kernel_rfl) (by kernel_rfl) ?_
  refine yS (by kernel_rfl : opAt F60.o0 0 = some (some 2, .assign (.const (.int .i64 0)), none)) rfl rfl (fun w' hS => val_assign rfl) ?_
  refine Sch.nil ?_
  refine run_seq (x := F60.c3) (y := F60.c4) (by kernel_rfl) ?_
  refine run_plain (id := 1) (ops := F60.o1) [(0, true), (1, true), (2, true), (3, true), (4, true), (5, true), (6, true)] (by kernel_rfl) (by kernel_rfl) ?_
  refine yS (by kernel_rfl : opAt F60.o1 0 = some (some 3, .move (.tmp 0), none)) rfl rfl (fun w' hS => val_move rfl) ?_
  refine yS (by kernel_rfl : opAt F60.o1 1 = some (some 4, .binOp .shr 59 (.tmp 3) (.const (.int .u64 1)) 77, none)) rfl rfl (fun w' hS => val_shr rfl rfl (by omega)) ?_
  refine yS (by kernel_rfl : opAt F60.o1 2 = some (some 5, .binOp .and 59 (.tmp 4) (.const (.int .u64 6148914691236517205)) 59, none)) rfl rfl (fun w' hS => val_and rfl rfl) ?_
  refine yS (by kernel_rfl : opAt F60.o1 3 = some (some 6, .move (.tmp 0), none)) rfl rfl (fun w' hS => val_move rfl) ?_
  refine yS (by kernel_rfl : opAt F60.o1 4 = some (some 7, .binOp .and 59 (.tmp 6) (.const (.int .u64 6148914691236517205)) 59, none)) rfl rfl (fun w' hS => val_and rfl rfl) ?_
  refine yS (by kernel_rfl : opAt F60.o1 5 = some (some 8, .binOp .add 59 (.tmp 5) (.tmp 7) 59, none)) rfl rfl (fun w' hS => val_add rfl rfl) ?_
  refine yS (by kernel_rfl : opAt F60.o1 6 = some (some 0, .assign (.tmp 8), none)) rfl rfl (fun w' hS => val_assign rfl) ?_
  refine Sch.nil ?_
  obtain ⟨x1, hx1⟩ : ∃ y : Int, y = IntKind.u64.wrap (bitsOf .and .u64 ((x).fdiv (2 ^ min (1 : Int).toNat IntKind.u64.bits)) 6148914691236517205 + bitsOf .and .u64 x 6148914691236517205) := ⟨_, rfl⟩
  rw [← hx1]
  refine kp (sub_cons 0 rfl rfl (sub_nil _)) ?_
  refine run_seq (x := F60.c5) (y := F60.c6) (by kernel_rfl) ?_
  refine run_plain (id := 2) (ops := F60.o2) [(0, true), (1, true), (2, true), (3, true), (4, true), (5, true), (6, true)] (by kernel_rfl) (by kernel_rfl) ?_
  refine yS (by kernel_rfl : opAt F60.o2 0 = some (some 9, .move (.tmp 0), none)) rfl rfl (fun w' hS => val_move rfl) ?_
  refine yS (by kernel_rfl : opAt F60.o2 1 = some (some 10, .binOp .shr 59 (.tmp 9) (.const (.int .u64 2)) 77, none)) rfl rfl (fun w' hS => val_shr rfl rfl (by omega)) ?_
  refine yS (by kernel_rfl : opAt F60.o2 2 = some (some 11, .binOp .and 59 (.tmp 10) (.const (.int .u64 3689348814741910323)) 59, none)) rfl rfl (fun w' hS => val_and rfl rfl) ?_
  refine yS (by kernel_rfl : opAt F60.o2 3 = some (some 12, .move (.tmp 0), none)) rfl rfl (fun w' hS => val_move rfl) ?_
  refine yS (by kernel_rfl : opAt F60.o2 4 = some (some 13, .binOp .and 59 (.tmp 12) (.const (.int .u64 3689348814741910323)) 59, none)) rfl rfl (fun w' hS => val_and rfl rfl) ?_
  refine yS (by kernel_rfl : opAt F60.o2 5 = some (some 14, .binOp .add 59 (.tmp 11) (.tmp 13) 59, none)) rfl rfl (fun w' hS => val_add rfl rfl) ?_
  refine yS (by kernel_rfl : opAt F60.o2 6 = some (some 0, .assign (.tmp 14), none)) rfl rfl (fun w' hS => val_assign rfl) ?_
  refine Sch.nil ?_
  obtain ⟨x2, hx2⟩ : ∃ y : Int, y = IntKind.u64.wrap (bitsOf .and .u64 ((x1).fdiv (2 ^ min (2 : Int).toNat IntKind.u64.bits)) 3689348814741910323 + bitsOf .and .u64 x1 3689348814741910323) := ⟨_, rfl⟩
  rw [← hx2]
  refine kp (sub_cons 0 rfl rfl (sub_nil _)) ?_
  refine run_seq (x := F60.c7) (y := F60.c8) (by kernel_rfl) ?_
  refine run_plain (id := 3) (ops := F60.o3) [(0, true), (1, true), (2, true), (3, true), (4, true), (5, true)] (by kernel_rfl) (by kernel_rfl) ?_
  refine yS (by kernel_rfl : opAt F60.o3 0 = some (some 15, .move (.tmp 0), none)) rfl rfl (fun w' hS => val_move rfl) ?_
  refine yS (by kernel_rfl : opAt F60.o3 1 = some (some 16, .binOp .shr 59 (.tmp 15) (.const (.int .u64 4)) 77, none)) rfl rfl (fun w' hS => val_shr rfl rfl (by omega)) ?_
  refine yS (by kernel_rfl : opAt F60.o3 2 = some (some 17, .move (.tmp 0), none)) rfl rfl (fun w' hS => val_move rfl) ?_
  refine yS (by kernel_rfl : opAt F60.o3 3 = some (some 18, .binOp .add 59 (.tmp 16) (.tmp 17) 59, none)) rfl rfl (fun w' hS => val_add rfl rfl) ?_
  refine yS (by kernel_rfl : opAt F60.o3 4 = some (some 19, .binOp .and 59 (.tmp 18) (.const (.int .u64 1085102592571150095)) 59, none)) rfl rfl (fun w' hS => val_and rfl rfl) ?_
  refine yS (by kernel_rfl : opAt F60.o3 5 = some (some 0, .assign (.tmp 19), none)) rfl rfl (fun w' hS => val_assign rfl) ?_
  refine Sch.nil ?_
  obtain ⟨x3, hx3⟩ : ∃ y : Int, y = bitsOf .and .u64 (IntKind.u64.wrap ((x2).fdiv (2 ^ min (4 : Int).toNat IntKind.u64.bits) + x2)) 1085102592571150095 := ⟨_, rfl⟩
  rw [← hx3]
  refine kp (sub_cons 0 rfl rfl (sub_nil _)) ?_
  refine run_seq (x := F60.c9) (y := F60.c10) (by kernel_rfl) ?_
  refine run_plain (id := 4) (ops := F60.o4) [(0, true), (1, true), (2, true), (3, true), (4, true)] (by kernel_rfl) (by kernel_rfl) ?_
  refine yS (by kernel_rfl : opAt F60.o4 0 = some (some 20, .move (.tmp 0), none)) rfl rfl (fun w' hS => val_move rfl) ?_
  refine yS (by kernel_rfl : opAt F60.o4 1 = some (some 21, .move (.tmp 0), none)) rfl rfl (fun w' hS => val_move rfl) ?_
  refine yS (by kernel_rfl : opAt F60.o4 2 = some (some 22, .binOp .shr 59 (.tmp 21) (.const (.int .u64 8)) 77, none)) rfl rfl (fun w' hS => val_shr rfl rfl (by omega)) ?_
  refine yS (by kernel_rfl : opAt F60.o4 3 = some (some 23, .binOp .add 59 (.tmp 20) (.tmp 22) 59, none)) rfl rfl (fun w' hS => val_add rfl rfl) ?_
  refine yS (by kernel_rfl : opAt F60.o4 4 = some (some 0, .assign (.tmp 23), none)) rfl rfl (fun w' hS => val_assign rfl) ?_
  refine Sch.nil ?_
  obtain ⟨x4, hx4⟩ : ∃ y : Int, y = IntKind.u64.wrap (x3 + (x3).fdiv (2 ^ min (8 : Int).toNat IntKind.u64.bits)) := ⟨_, rfl⟩
  rw [← hx4]
  refine kp (sub_cons 0 rfl rfl (sub_nil _)) ?_
  refine run_seq (x := F60.c11) (y := F60.c12) (by kernel_rfl) ?_
  refine run_plain (id := 5) (ops := F60.o5) [(0, true), (1, true), (2, true), (3, true), (4, true)] (by kernel_rfl) (by kernel_rfl) ?_
  refine yS (by kernel_rfl : opAt F60.o5 0 = some (some 24, .move (.tmp 0), none)) rfl rfl (fun w' hS => val_move rfl) ?_
  refine yS (by kernel_rfl : opAt F60.o5 1 = some (some 25, .move (.tmp 0), none)) rfl rfl (fun w' hS => val_move rfl) ?_
  refine yS (by kernel_rfl : opAt F60.o5 2 = some (some 26, .binOp .shr 59 (.tmp 25) (.const (.int .u64 16)) 77, none)) rfl rfl (fun w' hS => val_shr rfl rfl (by omega)) ?_
  refine yS (by kernel_rfl : opAt F60.o5 3 = some (some 27, .binOp .add 59 (.tmp 24) (.tmp 26) 59, none)) rfl rfl (fun w' hS => val_add rfl rfl) ?_
  refine yS (by kernel_rfl : opAt F60.o5 4 = some (some 0, .assign (.tmp 27), none)) rfl rfl (fun w' hS => val_assign rfl) ?_
  refine Sch.nil ?_
  obtain ⟨x5, hx5⟩ : ∃ y : Int, y = IntKind.u64.wrap (x4 + (x4).fdiv (2 ^ min (16 : Int).toNat IntKind.u64.bits)) := ⟨_, rfl⟩
  rw [← hx5]
  refine kp (sub_cons 0 rfl rfl (sub_nil _)) ?_
  refine run_seq (x := F60.c13) (y := F60.c14) (by kernel_rfl) ?_
  refine run_plain (id := 6) (ops := F60.o6) [(0, true), (1, true), (2, true), (3, true), (4, true)] (by kernel_rfl) (by kernel_rfl) ?_
  refine yS (by kernel_rfl : opAt F60.o6 0 = some (some 28, .move (.tmp 0), none)) rfl rfl (fun w' hS => val_move rfl) ?_
  refine yS (by kernel_rfl : opAt F60.o6 1 = some (some 29, .move (.tmp 0), none)) rfl rfl (fun w' hS => val_move rfl) ?_
  refine yS (by kernel_rfl : opAt F60.o6 2 = some (some 30, .binOp .shr 59 (.tmp 29) (.const (.int .u64 32)) 77, none)) rfl rfl (fun w' hS => val_shr rfl rfl (by omega)) ?_
  refine yS (by kernel_rfl : opAt F60.o6 3 = some (some 31, .binOp .add 59 (.tmp 28) (.tmp 30) 59, none)) rfl rfl (fun w' hS => val_add rfl rfl) ?_
  refine yS (by kernel_rfl : opAt F60.o6 4 = some (some 0, .assign (.tmp 31), none)) rfl rfl (fun w' hS => val_assign rfl) ?_
  refine Sch.nil ?_
  obtain ⟨x6, hx6⟩ : ∃ y : Int, y = IntKind.u64.wrap (x5 + (x5).fdiv (2 ^ min (32 : Int).toNat IntKind.u64.bits)) := ⟨_, rfl⟩
  rw [← hx6]
  refine kp (sub_cons 0 rfl rfl (sub_nil _)) ?_
  refine run_seq (x := F60.c15) (y := F60.c16) (by kernel_rfl) ?_
  refine run_plain (id := 7) (ops := F60.o7) [(0, true), (1, true), (2, true), (3, true)] (by kernel_rfl) (by kernel_rfl) ?_
  refine yS (by kernel_rfl : opAt F60.o7 0 = some (some 32, .move (.tmp 0), none)) rfl rfl (fun w' hS => val_move rfl) ?_
  refine yS (by kernel_rfl : opAt F60.o7 1 = some (some 33, .convert 59 3 (.tmp 32), none)) rfl rfl (fun w' hS => val_conv_int rfl ⟨_, Try.underlying59⟩ Try.underlying3) ?_
  refine yS (by kernel_rfl : opAt F60.o7 2 = some (some 34, .binOp .and 3 (.tmp 33) (.const (.int .i64 127)) 3, none)) rfl rfl (fun w' hS => val_and rfl rfl) ?_
  refine yS (by kernel_rfl : opAt F60.o7 3 = some (some 2, .assign (.tmp 34), none)) rfl rfl (fun w' hS => val_assign rfl) ?_
  refine Sch.nil ?_
  refine run_ret1 (by kernel_rfl) Try.func60 Try.results60 rfl ?_
  exact ⟨by subst hx6; subst hx5; subst hx4; subst hx3; subst hx2; subst hx1; rfl, rfl⟩
namespace F47
noncomputable def c0 : Code := bodyOf Try.f47
noncomputable def c1 : Code := cl c0
noncomputable def o0 : Array Oper := rops c1
noncomputable def c2 : Code := cr c0
noncomputable def c3 : Code := cl c2
noncomputable def c4 : Code := cl c3
noncomputable def o1 : Array Oper := rops c4
noncomputable def c5 : Code := cr c3
noncomputable def c6 : Code := cl c5
noncomputable def c7 : Code := cl c6
noncomputable def o2 : Array Oper := rops c7
noncomputable def c8 : Code := cr c6
noncomputable def c9 : Code := cr c5
noncomputable def c10 : Code := cr c2
noncomputable def c11 : Code := cl c10
noncomputable def o3 : Array Oper := rops c11
noncomputable def c12 : Code := cr c10
noncomputable def c13 : Code := cl c12
noncomputable def c14 : Code := cl c13
noncomputable def o4 : Array Oper := rops c14
noncomputable def c15 : Code := cr c13
noncomputable def c16 : Code := cl c15
noncomputable def c17 : Code := cl c16
noncomputable def c18 : Code := cl c17
noncomputable def o5 : Array Oper := rops c18
noncomputable def c19 : Code := cr c17
noncomputable def c20 : Code := cl c19
noncomputable def c21 : Code := cl c20
noncomputable def c22 : Code := cr c20
noncomputable def c23 : Code := cr c19
noncomputable def c24 : Code := cl c23
noncomputable def c25 : Code := cl c24
noncomputable def c26 : Code := cl c25
noncomputable def o6 : Array Oper := rops c26
noncomputable def c27 : Code := cr c25
noncomputable def o7 : Array Oper := rops c27
noncomputable def c28 : Code := cr c23
noncomputable def o8 : Array Oper := rops c28
noncomputable def c29 : Code := cr c12
noncomputable def c30 : Code := cl c29
noncomputable def o9 : Array Oper := rops c30
noncomputable def c31 : Code := cr c29
end F47
theorem count_ok {w₀ : World} {C : Nat → Nat} {y : Bits} {u : Value} (hF : Lim w₀ C) (hw : RV w₀ (Mc C) y.words u) : Calls Try.prog 47 #[.agg #[.int .i64 y.len, u]] w₀ (Ret fun v w' => v = .int .i64 (countB y) ∧ Stp [] w₀ C w' C) := by
  have hF0 := hF
  have hT := Stp.refl [2, 3, 4, 5, 6, 7, 8, 9] w₀ (col1 C)
  replace hF := hF.col1
  replace hw : RV w₀ (Mc (col1 C)) y.words u := by rw [Mc_col1]; exact hw
  refine calls_start (c := F47.c0) (N := 22) [.agg #[.int .i64 y.len, u]] Try.func47 (by kernel_rfl) (by kernel_rfl) (by kernel_rfl) ?_
  show Run _ _ _ _ [(0, .agg #[.int .i64 y.len, u])] _ _
  refine run_seq (x := F47.c1) (y := F47.c2) (by kernel_rfl) ?_
  refine run_plain (id := 0) (ops := F47.o0) [(0, false), (1, true)] (by kernel_rfl) (by kernel_rfl) ?_
  refine aS (by kernel_rfl : opAt F47.o0 0 = some (some 1, .box 33 (.tmp 0), none)) rfl rfl (a_box (cs := [.int .i64 y.len, u]) hF 3 rfl rfl) ?_
  rintro _ w1 ⟨Cw1, bw1, rfl, hs, hx, hF⟩
  refine ⟨trivial, ?_⟩
  replace hT := hT.trans hs (by simp)
  replace hw := hw.st hs (by first | decide | (simp <;> omega))
  refine yS (by kernel_rfl : opAt F47.o0 1 = some (some 2, .assign (.const (.int .i64 0)), none)) rfl rfl (fun w' hS => val_assign rfl) ?_
  refine Sch.nil ?_
  refine run_seq (x := F47.c3) (y := F47.c10) (by kernel_rfl) ?_
  refine run_seq (x := F47.c4) (y := F47.c5) (by kernel_rfl) ?_
  refine run_plain (id := 1) (ops := F47.o1) [(0, false), (1, false), (2, true)] (by kernel_rfl) (by kernel_rfl) ?_
  refine nS (by kernel_rfl : opAt F47.o1 0 = some (some 6, .load 33 (.tmp 1), none)) rfl rfl trivial (val_loadOwnAgg (n := 2) (vs := [.int .i64 y.len, u]) hx.at_ (by kernel_rfl) (by kernel_rfl) rfl rfl rfl) ?_
  refine cS (by kernel_rfl : opAt F47.o1 1 = some (some 7, .call { callee := .value (.func 29), args := #[(.tmp 6)], argTypes := #[33] }, none)) rfl rfl (ent Try.call29 rfl) (valid_ok hF hw) ?_
  rintro vw2 w2 ⟨rfl, hs⟩
  refine ⟨trivial, ?_⟩
  replace hF := hF.st hs
  replace hT := hT.trans hs (by simp)
  replace hw := hw.st hs (by first | decide | (simp <;> omega))
  replace hx := hx.st hs (by first | decide | (simp <;> omega))
  refine yS (by kernel_rfl : opAt F47.o1 2 = some (some 8, .unOp .not 4 (.tmp 7), none)) rfl rfl (fun w' hS => val_not rfl) ?_
  refine Sch.nil ?_
  refine run_cond (x := F47.c6) (y := F47.c9) (o := .tmp 8) (by kernel_rfl) rfl (fun h8 => ?_) (fun h8 => ?_)
  · skip
    have hv : validB y = false := by simpa using h8
    refine run_seq (x := F47.c7) (y := F47.c8) (by kernel_rfl) ?_
    refine run_plain (id := 2) (ops := F47.o2) [(0, true)] (by kernel_rfl) (by kernel_rfl) ?_
    refine yS (by kernel_rfl : opAt F47.o2 0 = some (some 2, .assign (.const (.int .i64 0)), none)) rfl rfl (fun w' hS => val_assign rfl) ?_
    refine Sch.nil ?_
    refine run_ret1 (by kernel_rfl) Try.func47 Try.results47 rfl ?_
    exact ⟨by unfold countB; rw [hv]; rfl, hT.out1 (by decide)⟩
  · skip
    have hv : validB y = true := by simpa using h8
    have hvw := valid_words hv
    refine run_skip (by kernel_rfl) ?_
    refine run_seq (x := F47.c11) (y := F47.c12) (by kernel_rfl) ?_
    refine run_plain (id := 3) (ops := F47.o3) [(0, true)] (by kernel_rfl) (by kernel_rfl) ?_
    refine yS (by kernel_rfl : opAt F47.o3 0 = some (some 3, .assign (.const (.int .i64 0)), none)) rfl rfl (fun w' hS => val_assign rfl) ?_
    refine Sch.nil ?_
    refine run_seq (x := F47.c13) (y := F47.c29) (by kernel_rfl) ?_
    refine run_seq (x := F47.c14) (y := F47.c15) (by kernel_rfl) ?_
    refine run_plain (id := 4) (ops := F47.o4) [(0, true), (1, false), (2, true), (3, true)] (by kernel_rfl) (by kernel_rfl) ?_
    refine yS (by kernel_rfl : opAt F47.o4 0 = some (some 9, .fieldAddr 33 (.tmp 1) 1, none)) rfl rfl (fun w' hS => val_fieldAddr (off := 1) (by kernel_rfl) rfl) ?_
    refine nS (by kernel_rfl : opAt F47.o4 1 = some (some 10, .load 31 (.tmp 9), none)) rfl rfl trivial (val_loadOwn hx.at_ (by kernel_rfl) rfl rfl) ?_
    refine yS (by kernel_rfl : opAt F47.o4 2 = some (some 11, .call { callee := .builtin .len, args := #[(.tmp 10)], argTypes := #[31] }, none)) rfl rfl (fun w' hS => hw.lenV rfl Try.underlying31 w' ) ?_
    refine yS (by kernel_rfl : opAt F47.o4 3 = some (some 12, .move (.const (.int .i64 0)), none)) rfl rfl (fun w' hS => val_move rfl) ?_
    refine Sch.nil ?_
    refine run_block (x := F47.c16) (id := 0) (by kernel_rfl) ?_
    
    refine run_loop (ι := Nat × (Nat → Nat)) (I := fun x w => x.1 ≤ y.words.length ∧ Lim w x.2 ∧ Stp [2, 3, 4, 5, 6, 7, 8, 9] w₀ (col1 C) w x.2 ∧ RV w (Mc x.2) y.words u) (e := fun x => [(3, .int .i64 (sumOnes y.words x.1)), (10, u), (11, .int .i64 y.words.length), (12, .int .i64 x.1)]) (m := fun x => y.words.length - x.1) (x₀ := (0, Cw1)) (body := F47.c17) (by kernel_rfl) (sub_cons 3 rfl rfl (sub_cons 10 rfl rfl (sub_cons 11 rfl rfl (sub_cons 12 rfl rfl (sub_nil _))))) ?_ ?_
    · exact ⟨Nat.zero_le _, hF, hT, hw⟩
    intro ⟨k, C1⟩ w3 hI next
    obtain ⟨hk, hF, hT, hw⟩ := hI
    try simp only at hk hF hT hw
    have next1 := next
    clear next
    show Run _ _ _ _ [(3, .int .i64 (sumOnes y.words k)), (10, u), (11, .int .i64 y.words.length), (12, .int .i64 k)] _ _
    have hsb := sumOnes_bnd y.words k
    refine run_seq (x := F47.c18) (y := F47.c19) (by kernel_rfl) ?_
    refine run_plain (id := 5) (ops := F47.o5) [(0, true)] (by kernel_rfl) (by kernel_rfl) ?_
    refine yS (by kernel_rfl : opAt F47.o5 0 = some (some 13, .binOp .lss 3 (.tmp 12) (.tmp 11) 3, none)) rfl rfl (fun w' hS => val_lss rfl rfl) ?_
    refine Sch.nil ?_
    refine run_seq (x := F47.c20) (y := F47.c23) (by kernel_rfl) ?_
    refine run_if (x := F47.c21) (y := F47.c22) (o := .tmp 13) (by kernel_rfl) rfl (fun h13 => ?_) (fun h13 => ?_)
    · skip
      have hkl : k < y.words.length := by omega
      have hob := onesS_bnd (y.words[k]).n
      refine run_skip (by kernel_rfl) ?_
      refine run_seq (x := F47.c24) (y := F47.c28) (by kernel_rfl) ?_
      refine run_block (x := F47.c25) (id := 1) (by kernel_rfl) ?_
      refine run_seq (x := F47.c26) (y := F47.c27) (by kernel_rfl) ?_
      refine run_plain (id := 6) (ops := F47.o6) [(0, true), (1, false), (2, true)] (by kernel_rfl) (by kernel_rfl) ?_
      refine iS (e := 59) (by kernel_rfl : opAt F47.o6 0 = some (some 14, .indexAddr 31 (.tmp 10) (.tmp 12), none)) rfl rfl hw rfl (by kernel_rfl) rfl (by omega) (by omega) ?_
      intro b14 o14 h14
      try simp only [Int.toNat_natCast] at h14
      refine lN (by kernel_rfl : opAt F47.o6 1 = some (some 15, .load 59 (.tmp 14), none)) rfl rfl trivial h14 (by kernel_rfl) rfl rfl ?_
      intro v15 g15
      obtain rfl := rv_num.1 g15
      refine yS (by kernel_rfl : opAt F47.o6 2 = some (some 5, .assign (.tmp 15), none)) rfl rfl (fun w' hS => val_assign rfl) ?_
      refine Sch.nil ?_
      refine run_plain (id := 7) (ops := F47.o7) [(0, true), (1, true), (2, false), (3, true), (4, true)] (by kernel_rfl) (by kernel_rfl) ?_
      refine yS (by kernel_rfl : opAt F47.o7 0 = some (some 16, .move (.tmp 3), none)) rfl rfl (fun w' hS => val_move rfl) ?_
      refine yS (by kernel_rfl : opAt F47.o7 1 = some (some 17, .move (.tmp 5), none)) rfl rfl (fun w' hS => val_move rfl) ?_
      refine cS (by kernel_rfl : opAt F47.o7 2 = some (some 18, .call { callee := .value (.func 60), args := #[(.tmp 17)], argTypes := #[59] }, none)) rfl rfl (ent Try.call60 rfl) (ones_ok _ _) ?_
      rintro vw4 w4 ⟨rfl, rfl⟩
      refine ⟨trivial, ?_⟩
      refine yS (by kernel_rfl : opAt F47.o7 3 = some (some 19, .binOp .add 3 (.tmp 16) (.tmp 18) 3, none)) rfl rfl (fun w' hS => val_addi rfl rfl (by omega) (by omega)) ?_
      refine yS (by kernel_rfl : opAt F47.o7 4 = some (some 3, .assign (.tmp 19), none)) rfl rfl (fun w' hS => val_assign rfl) ?_
      refine Sch.nil ?_
      refine run_inBlock ?_
      refine run_plain (id := 8) (ops := F47.o8) [(0, true), (1, true)] (by kernel_rfl) (by kernel_rfl) ?_
      refine yS (by kernel_rfl : opAt F47.o8 0 = some (some 20, .binOp .add 3 (.tmp 12) (.const (.int .i64 1)) 3, none)) rfl rfl (fun w' hS => val_addi rfl rfl (by omega) (by omega)) ?_
      refine yS (by kernel_rfl : opAt F47.o8 1 = some (some 12, .move (.tmp 20), none)) rfl rfl (fun w' hS => val_move rfl) ?_
      refine Sch.nil ?_
      refine kp (sub_cons 3 rfl (eq_int (by show _ = sumOnes y.words k + onesS (y.words.getD k default).n; rw [getDi hkl])) (sub_cons 10 rfl rfl (sub_cons 11 rfl rfl (sub_cons 12 rfl (eq_int (by simp)) (sub_nil _))))) (next1 (k + 1, C1) _ ⟨(by first | omega | (simp only; omega)), hF, hT, hw⟩ (by first | omega | (simp only; omega)))
    · skip
      have hkl : k = y.words.length := by omega
      rw [hkl]
      refine run_exit (id := 0) (by kernel_rfl) rfl ?_
      refine run_seq (x := F47.c30) (y := F47.c31) (by kernel_rfl) ?_
      refine run_plain (id := 9) (ops := F47.o9) [(0, true), (1, true)] (by kernel_rfl) (by kernel_rfl) ?_
      refine yS (by kernel_rfl : opAt F47.o9 0 = some (some 21, .move (.tmp 3), none)) rfl rfl (fun w' hS => val_move rfl) ?_
      refine yS (by kernel_rfl : opAt F47.o9 1 = some (some 2, .assign (.tmp 21), none)) rfl rfl (fun w' hS => val_assign rfl) ?_
      refine Sch.nil ?_
      refine run_ret1 (by kernel_rfl) Try.func47 Try.results47 rfl ?_
      exact ⟨by unfold countB; rw [hv]; rfl, hT.out1 (by decide)⟩
namespace F59
noncomputable def c0 : Code := bodyOf Try.f59
noncomputable def c1 : Code := cl c0
noncomputable def o0 : Array Oper := rops c1
noncomputable def c2 : Code := cr c0
noncomputable def c3 : Code := cl c2
noncomputable def o1 : Array Oper := rops c3
noncomputable def c4 : Code := cr c2
end F59
theorem and1_ok (x y : Int) (w : World) : Calls Try.prog 59 #[.int .u64 x, .int .u64 y] w (Ret fun v w' => v = .int .u64 (bitsOf .and .u64 x y) ∧ w' = w) := by
  refine calls_start (c := F59.c0) (N := 8) [.int .u64 x, .int .u64 y] Try.func59 (by kernel_rfl) (by kernel_rfl) (by kernel_rfl) ?_
  show Run _ _ _ _ [(0, .int .u64 x), (1, .int .u64 y)] _ _
  refine run_seq (x := F59.c1) (y := F59.c2) (by kernel_rfl) ?_
  refine run_plain (id := 0) (ops := F59.o0) [(0, true)] (by kernel_rfl) (by kernel_rfl) ?_
  refine yS (by kernel_rfl : opAt F59.o0 0 = some (some 4, .assign (.const (.int .u64 0)), none)) rfl rfl (fun w' hS => val_assign rfl) ?_
  refine Sch.nil ?_
  refine run_seq (x := F59.c3) (y := F59.c4) (by kernel_rfl) ?_
  refine run_plain (id := 1) (ops := F59.o1) [(0, true), (1, true), (2, true), (3, true)] (by kernel_rfl) (by kernel_rfl) ?_
  refine yS (by kernel_rfl : opAt F59.o1 0 = some (some 5, .move (.tmp 0), none)) rfl rfl (fun w' hS => val_move rfl) ?_
  refine yS (by kernel_rfl : opAt F59.o1 1 = some (some 6, .move (.tmp 1), none)) rfl rfl (fun w' hS => val_move rfl) ?_
  refine yS (by kernel_rfl : opAt F59.o1 2 = some (some 7, .binOp .and 59 (.tmp 5) (.tmp 6) 59, none)) rfl rfl (fun w' hS => val_and rfl rfl) ?_
  refine yS (by kernel_rfl : opAt F59.o1 3 = some (some 4, .assign (.tmp 7), none)) rfl rfl (fun w' hS => val_assign rfl) ?_
  refine Sch.nil ?_
  refine run_ret1 (by kernel_rfl) Try.func59 Try.results59 rfl ?_
  exact ⟨rfl, rfl⟩
namespace F58
noncomputable def c0 : Code := bodyOf Try.f58
noncomputable def c1 : Code := cl c0
noncomputable def o0 : Array Oper := rops c1
noncomputable def c2 : Code := cr c0
noncomputable def c3 : Code := cl c2
noncomputable def c4 : Code := cl c3
noncomputable def o1 : Array Oper := rops c4
noncomputable def c5 : Code := cr c3
noncomputable def c6 : Code := cl c5
noncomputable def c7 : Code := cl c6
noncomputable def o2 : Array Oper := rops c7
noncomputable def c8 : Code := cr c6
noncomputable def c9 : Code := cr c5
noncomputable def c10 : Code := cr c2
noncomputable def c11 : Code := cl c10
noncomputable def o3 : Array Oper := rops c11
noncomputable def c12 : Code := cr c10
noncomputable def c13 : Code := cl c12
noncomputable def c14 : Code := cl c13
noncomputable def o4 : Array Oper := rops c14
noncomputable def c15 : Code := cr c13
noncomputable def c16 : Code := cl c15
noncomputable def c17 : Code := cl c16
noncomputable def c18 : Code := cl c17
noncomputable def o5 : Array Oper := rops c18
noncomputable def c19 : Code := cr c17
noncomputable def c20 : Code := cl c19
noncomputable def c21 : Code := cl c20
noncomputable def c22 : Code := cr c20
noncomputable def c23 : Code := cr c19
noncomputable def c24 : Code := cl c23
noncomputable def c25 : Code := cl c24
noncomputable def c26 : Code := cl c25
noncomputable def o6 : Array Oper := rops c26
noncomputable def c27 : Code := cr c25
noncomputable def o7 : Array Oper := rops c27
noncomputable def c28 : Code := cr c23
noncomputable def o8 : Array Oper := rops c28
noncomputable def c29 : Code := cr c12
noncomputable def c30 : Code := cl c29
noncomputable def o9 : Array Oper := rops c30
noncomputable def c31 : Code := cr c29
end F58
theorem both_ok {w₀ : World} {C : Nat → Nat} {a b : Bits} {u v : Value} (hF : Lim w₀ C) (hw : RV w₀ (Mc C) a.words u) (hz : RV w₀ (Mc C) b.words v) : Calls Try.prog 58 #[.agg #[.int .i64 a.len, u], .agg #[.int .i64 b.len, v], .func (.func 59) #[] #[]] w₀ (Ret fun r w' => ∃ (c : Bits) (z : Value) (e : Int), r = .tuple #[.agg #[.int .i64 c.len, z], .int .i64 e] ∧ Stp [] w₀ C w' C ∧ RV w' (Mc C) c.words z ∧ (andOK a b → c = andB a b ∧ e = 0) ∧ (¬ andOK a b → e = 8)) := by
  have hF0 := hF
  have hT := Stp.refl [2, 3, 4, 5, 6, 7, 8, 9] w₀ (col1 C)
  replace hF := hF.col1
  replace hw : RV w₀ (Mc (col1 C)) a.words u := by rw [Mc_col1]; exact hw
  replace hz : RV w₀ (Mc (col1 C)) b.words v := by rw [Mc_col1]; exact hz
  refine calls_start (c := F58.c0) (N := 56) [.agg #[.int .i64 a.len, u], .agg #[.int .i64 b.len, v], .func (.func 59) #[] #[]] Try.func58 (by kernel_rfl) (by kernel_rfl) (by kernel_rfl) ?_
  show Run _ _ _ _ [(0, .agg #[.int .i64 a.len, u]), (1, .agg #[.int .i64 b.len, v]), (2, .func (.func 59) #[] #[])] _ _
  refine run_seq (x := F58.c1) (y := F58.c2) (by kernel_rfl) ?_
  refine run_plain (id := 0) (ops := F58.o0) [(0, false), (1, false), (2, false), (3, true)] (by kernel_rfl) (by kernel_rfl) ?_
  refine aS (by kernel_rfl : opAt F58.o0 0 = some (some 3, .box 33 (.tmp 0), none)) rfl rfl (a_box (cs := [.int .i64 a.len, u]) hF 3 rfl rfl) ?_
  rintro _ w1 ⟨Cw1, bw1, rfl, hs, ha, hF⟩
  refine ⟨trivial, ?_⟩
  replace hT := hT.trans hs (by simp)
  replace hw := hw.st hs (by first | decide | (simp <;> omega))
  replace hz := hz.st hs (by first | decide | (simp <;> omega))
  refine aS (by kernel_rfl : opAt F58.o0 1 = some (some 4, .box 33 (.tmp 1), none)) rfl rfl (a_box (cs := [.int .i64 b.len, v]) hF 4 rfl rfl) ?_
  rintro _ w2 ⟨Cw2, bw2, rfl, hs, hb, hF⟩
  refine ⟨trivial, ?_⟩
  replace hT := hT.trans hs (by simp)
  replace hw := hw.st hs (by first | decide | (simp <;> omega))
  replace hz := hz.st hs (by first | decide | (simp <;> omega))
  replace ha := ha.st hs (by first | decide | (simp <;> omega))
  refine aS (by kernel_rfl : opAt F58.o0 2 = some (some 6, .alloc 33, none)) rfl rfl (a_alloc (cs := [.int .i64 0, .slice none 0 0]) hF 5 (by kernel_rfl)) ?_
  rintro _ w3 ⟨Cw3, bw3, rfl, hs, hr, hF⟩
  refine ⟨trivial, ?_⟩
  replace hT := hT.trans hs (by simp)
  replace hw := hw.st hs (by first | decide | (simp <;> omega))
  replace hz := hz.st hs (by first | decide | (simp <;> omega))
  replace ha := ha.st hs (by first | decide | (simp <;> omega))
  replace hb := hb.st hs (by first | decide | (simp <;> omega))
  refine yS (by kernel_rfl : opAt F58.o0 3 = some (some 7, .assign (.const (.int .i64 0)), none)) rfl rfl (fun w' hS => val_assign rfl) ?_
  refine Sch.nil ?_
  refine kp (sub_cons 2 rfl rfl (sub_cons 3 rfl rfl (sub_cons 4 rfl rfl (sub_cons 6 rfl rfl (sub_nil _))))) ?_
  refine run_seq (x := F58.c3) (y := F58.c10) (by kernel_rfl) ?_
  refine run_seq (x := F58.c4) (y := F58.c5) (by kernel_rfl) ?_
  refine run_cut 25 (decide (¬ andOK a b)) (Cw3) ?_ ?_
  · intro hcut
    by_cases hA : validB a = true
    · skip
      by_cases hB : validB b = true
      · skip
        refine run_plain (id := 1) (ops := F58.o1) [(0, false), (1, false), (2, true), (3, true), (4, false), (5, false), (6, true), (7, true), (8, true), (9, true), (10, false), (11, true), (12, false), (13, true), (14, true)] (by kernel_rfl) (by kernel_rfl) ?_
        have hcs := Stp.reflF hF
        refine nS (by kernel_rfl : opAt F58.o1 0 = some (some 11, .load 33 (.tmp 3), none)) rfl rfl trivial (val_loadOwnAgg (n := 2) (vs := [.int .i64 a.len, u]) ha.at_ (by kernel_rfl) (by kernel_rfl) rfl rfl rfl) ?_
        refine cS (by kernel_rfl : opAt F58.o1 1 = some (some 12, .call { callee := .value (.func 29), args := #[(.tmp 11)], argTypes := #[33] }, none)) rfl rfl (ent Try.call29 rfl) (valid_ok hF hw) ?_
        rintro vw4 w4 ⟨rfl, hs⟩
        rw [hA]
        refine ⟨trivial, ?_⟩
        replace hF := hF.st hs
        replace hT := hT.trans hs (by simp)
        replace hw := hw.st hs (by first | decide | (simp <;> omega))
        replace hz := hz.st hs (by first | decide | (simp <;> omega))
        replace ha := ha.st hs (by first | decide | (simp <;> omega))
        replace hb := hb.st hs (by first | decide | (simp <;> omega))
        replace hr := hr.st hs (by first | decide | (simp <;> omega))
        replace hcs := hcs.trans hs (by simp)
        refine yS (by kernel_rfl : opAt F58.o1 2 = some (some 13, .unOp .not 4 (.tmp 12), none)) rfl rfl (fun w' hS => val_not rfl) ?_
        refine yS (by kernel_rfl : opAt F58.o1 3 = some (some 14, .move (.tmp 13), none)) rfl rfl (fun w' hS => val_move rfl) ?_
        refine nS (by kernel_rfl : opAt F58.o1 4 = some (some 15, .load 33 (.tmp 4), (some (3, false)))) rfl rfl trivial (val_loadOwnAgg (n := 2) (vs := [.int .i64 b.len, v]) hb.at_ (by kernel_rfl) (by kernel_rfl) rfl rfl rfl) ?_
        refine cS (by kernel_rfl : opAt F58.o1 5 = some (some 16, .call { callee := .value (.func 29), args := #[(.tmp 15)], argTypes := #[33] }, (some (3, false)))) rfl rfl (ent Try.call29 rfl) (valid_ok hF hz) ?_
        rintro vw5 w5 ⟨rfl, hs⟩
        rw [hB]
        refine ⟨trivial, ?_⟩
        replace hF := hF.st hs
        replace hT := hT.trans hs (by simp)
        replace hw := hw.st hs (by first | decide | (simp <;> omega))
        replace hz := hz.st hs (by first | decide | (simp <;> omega))
        replace ha := ha.st hs (by first | decide | (simp <;> omega))
        replace hb := hb.st hs (by first | decide | (simp <;> omega))
        replace hr := hr.st hs (by first | decide | (simp <;> omega))
        replace hcs := hcs.trans hs (by simp)
        refine yS (by kernel_rfl : opAt F58.o1 6 = some (some 17, .unOp .not 4 (.tmp 16), (some (3, false)))) rfl rfl (fun w' hS => val_not rfl) ?_
        refine yS (by kernel_rfl : opAt F58.o1 7 = some (some 18, .pick (.tmp 14) (.const (.bool true)) (.tmp 17), none)) rfl rfl (fun w' hS => val_pick_f rfl rfl) ?_
        refine yS (by kernel_rfl : opAt F58.o1 8 = some (some 19, .move (.tmp 18), none)) rfl rfl (fun w' hS => val_move rfl) ?_
        refine yS (by kernel_rfl : opAt F58.o1 9 = some (some 20, .fieldAddr 33 (.tmp 3) 0, (some (8, false)))) rfl rfl (fun w' hS => val_fieldAddr (off := 0) (by kernel_rfl) rfl) ?_
        refine nS (by kernel_rfl : opAt F58.o1 10 = some (some 21, .load 3 (.tmp 20), (some (8, false)))) rfl rfl trivial (val_loadOwn ha.at_ (by kernel_rfl) rfl rfl) ?_
        refine yS (by kernel_rfl : opAt F58.o1 11 = some (some 22, .fieldAddr 33 (.tmp 4) 0, (some (8, false)))) rfl rfl (fun w' hS => val_fieldAddr (off := 0) (by kernel_rfl) rfl) ?_
        refine nS (by kernel_rfl : opAt F58.o1 12 = some (some 23, .load 3 (.tmp 22), (some (8, false)))) rfl rfl trivial (val_loadOwn hb.at_ (by kernel_rfl) rfl rfl) ?_
        refine yS (by kernel_rfl : opAt F58.o1 13 = some (some 24, .binOp .neq 3 (.tmp 21) (.tmp 23) 3, (some (8, false)))) rfl rfl (fun w' hS => val_neq rfl rfl) ?_
        refine yS (by kernel_rfl : opAt F58.o1 14 = some (some 25, .pick (.tmp 19) (.const (.bool true)) (.tmp 24), none)) rfl rfl (fun w' hS => val_pick_f rfl rfl) ?_
        exact Sch.nil (hcut _ _ _ hcs rfl (by congr 1; apply decide_eq_decide.2; exact ⟨fun e h => e h.2.2, fun e e2 => e ⟨hA, hB, e2⟩⟩) (sub_skip rfl (sub_skip rfl (sub_skip rfl (sub_skip rfl (sub_skip rfl (sub_skip rfl (sub_skip rfl (sub_skip rfl (sub_skip rfl (sub_skip rfl (sub_skip rfl (sub_skip rfl (sub_skip rfl (sub_skip rfl (sub_skip rfl (Sub.refl _)))))))))))))))))
      · skip
        refine run_plain (id := 1) (ops := F58.o1) [(0, false), (1, false), (2, true), (3, true), (4, false), (5, false), (6, true), (7, true), (8, true), (9, true), (10, false), (11, true), (12, false), (13, true), (14, true)] (by kernel_rfl) (by kernel_rfl) ?_
        have hcs := Stp.reflF hF
        refine nS (by kernel_rfl : opAt F58.o1 0 = some (some 11, .load 33 (.tmp 3), none)) rfl rfl trivial (val_loadOwnAgg (n := 2) (vs := [.int .i64 a.len, u]) ha.at_ (by kernel_rfl) (by kernel_rfl) rfl rfl rfl) ?_
        refine cS (by kernel_rfl : opAt F58.o1 1 = some (some 12, .call { callee := .value (.func 29), args := #[(.tmp 11)], argTypes := #[33] }, none)) rfl rfl (ent Try.call29 rfl) (valid_ok hF hw) ?_
        rintro vw6 w6 ⟨rfl, hs⟩
        rw [hA]
        refine ⟨trivial, ?_⟩
        replace hF := hF.st hs
        replace hT := hT.trans hs (by simp)
        replace hw := hw.st hs (by first | decide | (simp <;> omega))
        replace hz := hz.st hs (by first | decide | (simp <;> omega))
        replace ha := ha.st hs (by first | decide | (simp <;> omega))
        replace hb := hb.st hs (by first | decide | (simp <;> omega))
        replace hr := hr.st hs (by first | decide | (simp <;> omega))
        replace hcs := hcs.trans hs (by simp)
        refine yS (by kernel_rfl : opAt F58.o1 2 = some (some 13, .unOp .not 4 (.tmp 12), none)) rfl rfl (fun w' hS => val_not rfl) ?_
        refine yS (by kernel_rfl : opAt F58.o1 3 = some (some 14, .move (.tmp 13), none)) rfl rfl (fun w' hS => val_move rfl) ?_
        refine nS (by kernel_rfl : opAt F58.o1 4 = some (some 15, .load 33 (.tmp 4), (some (3, false)))) rfl rfl trivial (val_loadOwnAgg (n := 2) (vs := [.int .i64 b.len, v]) hb.at_ (by kernel_rfl) (by kernel_rfl) rfl rfl rfl) ?_
        refine cS (by kernel_rfl : opAt F58.o1 5 = some (some 16, .call { callee := .value (.func 29), args := #[(.tmp 15)], argTypes := #[33] }, (some (3, false)))) rfl rfl (ent Try.call29 rfl) (valid_ok hF hz) ?_
        rintro vw7 w7 ⟨rfl, hs⟩
        rw [Bool.eq_false_iff.2 hB]
        refine ⟨trivial, ?_⟩
        replace hF := hF.st hs
        replace hT := hT.trans hs (by simp)
        replace hw := hw.st hs (by first | decide | (simp <;> omega))
        replace hz := hz.st hs (by first | decide | (simp <;> omega))
        replace ha := ha.st hs (by first | decide | (simp <;> omega))
        replace hb := hb.st hs (by first | decide | (simp <;> omega))
        replace hr := hr.st hs (by first | decide | (simp <;> omega))
        replace hcs := hcs.trans hs (by simp)
        refine yS (by kernel_rfl : opAt F58.o1 6 = some (some 17, .unOp .not 4 (.tmp 16), (some (3, false)))) rfl rfl (fun w' hS => val_not rfl) ?_
        refine yS (by kernel_rfl : opAt F58.o1 7 = some (some 18, .pick (.tmp 14) (.const (.bool true)) (.tmp 17), none)) rfl rfl (fun w' hS => val_pick_f rfl rfl) ?_
        refine yS (by kernel_rfl : opAt F58.o1 8 = some (some 19, .move (.tmp 18), none)) rfl rfl (fun w' hS => val_move rfl) ?_
        refine pS (by kernel_rfl : opAt F58.o1 9 = some (some 20, .fieldAddr 33 (.tmp 3) 0, (some (8, false)))) rfl rfl ?_
        refine pW (by kernel_rfl : opAt F58.o1 10 = some (some 21, .load 3 (.tmp 20), (some (8, false)))) rfl rfl trivial ?_
        refine pS (by kernel_rfl : opAt F58.o1 11 = some (some 22, .fieldAddr 33 (.tmp 4) 0, (some (8, false)))) rfl rfl ?_
        refine pW (by kernel_rfl : opAt F58.o1 12 = some (some 23, .load 3 (.tmp 22), (some (8, false)))) rfl rfl trivial ?_
        refine pS (by kernel_rfl : opAt F58.o1 13 = some (some 24, .binOp .neq 3 (.tmp 21) (.tmp 23) 3, (some (8, false)))) rfl rfl ?_
        refine yS (by kernel_rfl : opAt F58.o1 14 = some (some 25, .pick (.tmp 19) (.const (.bool true)) (.tmp 24), none)) rfl rfl (fun w' hS => val_pick_t rfl rfl) ?_
        exact Sch.nil (hcut _ _ _ hcs rfl (by rw [decide_eq_true (show ¬ andOK a b from fun h => hB h.2.1)]) (sub_skip rfl (sub_skip rfl (sub_skip rfl (sub_skip rfl (sub_skip rfl (sub_skip rfl (sub_skip rfl (sub_skip rfl (sub_skip rfl (sub_skip rfl (sub_skip rfl (sub_skip rfl (sub_skip rfl (sub_skip rfl (sub_skip rfl (Sub.refl _)))))))))))))))))
    · skip
      refine run_plain (id := 1) (ops := F58.o1) [(0, false), (1, false), (2, true), (3, true), (4, false), (5, false), (6, true), (7, true), (8, true), (9, true), (10, false), (11, true), (12, false), (13, true), (14, true)] (by kernel_rfl) (by kernel_rfl) ?_
      have hcs := Stp.reflF hF
      refine nS (by kernel_rfl : opAt F58.o1 0 = some (some 11, .load 33 (.tmp 3), none)) rfl rfl trivial (val_loadOwnAgg (n := 2) (vs := [.int .i64 a.len, u]) ha.at_ (by kernel_rfl) (by kernel_rfl) rfl rfl rfl) ?_
      refine cS (by kernel_rfl : opAt F58.o1 1 = some (some 12, .call { callee := .value (.func 29), args := #[(.tmp 11)], argTypes := #[33] }, none)) rfl rfl (ent Try.call29 rfl) (valid_ok hF hw) ?_
      rintro vw8 w8 ⟨rfl, hs⟩
      rw [Bool.eq_false_iff.2 hA]
      refine ⟨trivial, ?_⟩
      replace hF := hF.st hs
      replace hT := hT.trans hs (by simp)
      replace hw := hw.st hs (by first | decide | (simp <;> omega))
      replace hz := hz.st hs (by first | decide | (simp <;> omega))
      replace ha := ha.st hs (by first | decide | (simp <;> omega))
      replace hb := hb.st hs (by first | decide | (simp <;> omega))
      replace hr := hr.st hs (by first | decide | (simp <;> omega))
      replace hcs := hcs.trans hs (by simp)
      refine yS (by kernel_rfl : opAt F58.o1 2 = some (some 13, .unOp .not 4 (.tmp 12), none)) rfl rfl (fun w' hS => val_not rfl) ?_
      refine yS (by kernel_rfl : opAt F58.o1 3 = some (some 14, .move (.tmp 13), none)) rfl rfl (fun w' hS => val_move rfl) ?_
      refine pW (by kernel_rfl : opAt F58.o1 4 = some (some 15, .load 33 (.tmp 4), (some (3, false)))) rfl rfl trivial ?_
      refine pW (by kernel_rfl : opAt F58.o1 5 = some (some 16, .call { callee := .value (.func 29), args := #[(.tmp 15)], argTypes := #[33] }, (some (3, false)))) rfl rfl trivial ?_
      refine pS (by kernel_rfl : opAt F58.o1 6 = some (some 17, .unOp .not 4 (.tmp 16), (some (3, false)))) rfl rfl ?_
      refine yS (by kernel_rfl : opAt F58.o1 7 = some (some 18, .pick (.tmp 14) (.const (.bool true)) (.tmp 17), none)) rfl rfl (fun w' hS => val_pick_t rfl rfl) ?_
      refine yS (by kernel_rfl : opAt F58.o1 8 = some (some 19, .move (.tmp 18), none)) rfl rfl (fun w' hS => val_move rfl) ?_
      refine pS (by kernel_rfl : opAt F58.o1 9 = some (some 20, .fieldAddr 33 (.tmp 3) 0, (some (8, false)))) rfl rfl ?_
      refine pW (by kernel_rfl : opAt F58.o1 10 = some (some 21, .load 3 (.tmp 20), (some (8, false)))) rfl rfl trivial ?_
      refine pS (by kernel_rfl : opAt F58.o1 11 = some (some 22, .fieldAddr 33 (.tmp 4) 0, (some (8, false)))) rfl rfl ?_
      refine pW (by kernel_rfl : opAt F58.o1 12 = some (some 23, .load 3 (.tmp 22), (some (8, false)))) rfl rfl trivial ?_
      refine pS (by kernel_rfl : opAt F58.o1 13 = some (some 24, .binOp .neq 3 (.tmp 21) (.tmp 23) 3, (some (8, false)))) rfl rfl ?_
      refine yS (by kernel_rfl : opAt F58.o1 14 = some (some 25, .pick (.tmp 19) (.const (.bool true)) (.tmp 24), none)) rfl rfl (fun w' hS => val_pick_t rfl rfl) ?_
      exact Sch.nil (hcut _ _ _ hcs rfl (by rw [decide_eq_true (show ¬ andOK a b from fun h => hA h.1)]) (sub_skip rfl (sub_skip rfl (sub_skip rfl (sub_skip rfl (sub_skip rfl (sub_skip rfl (sub_skip rfl (sub_skip rfl (sub_skip rfl (sub_skip rfl (sub_skip rfl (sub_skip rfl (sub_skip rfl (sub_skip rfl (sub_skip rfl (Sub.refl _)))))))))))))))))
  intro w9 hs
  replace hF := hF.st hs
  replace hT := hT.trans hs (by simp)
  replace hw := hw.st hs (by first | decide | (simp <;> omega))
  replace hz := hz.st hs (by first | decide | (simp <;> omega))
  replace ha := ha.st hs (by first | decide | (simp <;> omega))
  replace hb := hb.st hs (by first | decide | (simp <;> omega))
  replace hr := hr.st hs (by first | decide | (simp <;> omega))
  refine run_if (x := F58.c6) (y := F58.c9) (o := .tmp 25) (by kernel_rfl) rfl (fun h25 => ?_) (fun h25 => ?_)
  · skip
    refine run_seq (x := F58.c7) (y := F58.c8) (by kernel_rfl) ?_
    refine run_plain (id := 2) (ops := F58.o2) [(0, true), (1, false), (2, true)] (by kernel_rfl) (by kernel_rfl) ?_
    refine yS (by kernel_rfl : opAt F58.o2 0 = some (some 26, .build 33 #[], none)) rfl rfl (fun w' hS => val_build (zs := [.int .i64 0, .slice none 0 0]) (ps := [(0, 1), (1, 1)]) (qs := []) (cs := [.int .i64 0, .slice none 0 0]) (by kernel_rfl) (by kernel_rfl) (by exact trivial) rfl) ?_
    refine aN (by kernel_rfl : opAt F58.o2 1 = some (none, .store 33 (.tmp 6) (.tmp 26), none)) rfl (a_storeAll (vs := [.int .i64 0, .slice none 0 0]) (n := 2) rfl rfl (by kernel_rfl) rfl rfl (by intro z hz; simp only [List.mem_cons, List.not_mem_nil, or_false] at hz; rcases hz with rfl | rfl <;> rfl) hr rfl) ?_
    rintro _ w10 ⟨rfl, hs, hr⟩
    refine ⟨trivial, ?_⟩
    replace hF := hF.st hs
    replace hT := hT.trans hs (by simp)
    replace hw := hw.st hs (by first | decide | (simp <;> omega))
    replace hz := hz.st hs (by first | decide | (simp <;> omega))
    replace ha := ha.st hs (by first | decide | (simp <;> omega))
    replace hb := hb.st hs (by first | decide | (simp <;> omega))
    refine yS (by kernel_rfl : opAt F58.o2 2 = some (some 7, .assign (.const (.int .i64 8)), none)) rfl rfl (fun w' hS => val_assign rfl) ?_
    refine Sch.nil ?_
    refine run_retC2 (by kernel_rfl) Try.func58 Try.results58 rfl rfl hr.at_ (by kernel_rfl) (by kernel_rfl) rfl ?_
    exact ⟨⟨0, []⟩, _, _, rfl, hT.out1 (by decide), rv_nil, fun e => absurd e h25, fun _ => rfl⟩
  · skip
    have hok : andOK a b := Classical.not_not.1 h25
    have hwl := and_words hok
    have hvw := valid_words hok.1
    refine run_skip (by kernel_rfl) ?_
    refine run_seq (x := F58.c11) (y := F58.c12) (by kernel_rfl) ?_
    refine run_draw2 (id := 3) (ops := F58.o3) [7] (Cw3) [0, 1, 2, 3, 4] 5 [(6, true), (7, false), (8, false)] 7 [(5, false), (6, true), (8, false)] Try_mixed (by kernel_rfl) (by kernel_rfl) (by kernel_rfl) ?_ ?_
    · skip
      intro w11 hs
      replace hF := hF.st hs
      replace hT := hT.trans hs (by simp)
      replace hw := hw.st hs (by first | decide | (simp <;> omega))
      replace hz := hz.st hs (by first | decide | (simp <;> omega))
      replace ha := ha.st hs (by first | decide | (simp <;> omega))
      replace hb := hb.st hs (by first | decide | (simp <;> omega))
      replace hr := hr.st hs (by first | decide | (simp <;> omega))
      show Sch _ _ _ _ _ _ _ [(0, true), (1, true), (2, true), (3, true), (4, true), (5, false), (6, true), (7, false), (8, false)] _ _
      have hR := Stp.refl [7] w11 (Cw3)
      refine yS (by kernel_rfl : opAt F58.o3 0 = some (some 27, .fieldAddr 33 (.tmp 3) 0, none)) rfl rfl (fun w' hS => val_fieldAddr (off := 0) (by kernel_rfl) rfl) ?_
      refine yS (by kernel_rfl : opAt F58.o3 1 = some (some 28, .load 3 (.tmp 27), none)) rfl rfl (fun w' hS => val_loadOwn (ha.stay hS (by decide)) (by kernel_rfl) rfl rfl) ?_
      refine yS (by kernel_rfl : opAt F58.o3 2 = some (some 29, .fieldAddr 33 (.tmp 3) 1, none)) rfl rfl (fun w' hS => val_fieldAddr (off := 1) (by kernel_rfl) rfl) ?_
      refine yS (by kernel_rfl : opAt F58.o3 3 = some (some 30, .load 31 (.tmp 29), none)) rfl rfl (fun w' hS => val_loadOwn (ha.stay hS (by decide)) (by kernel_rfl) rfl rfl) ?_
      refine yS (by kernel_rfl : opAt F58.o3 4 = some (some 31, .call { callee := .builtin .len, args := #[(.tmp 30)], argTypes := #[31] }, none)) rfl rfl (fun w' hS => hw.lenV rfl Try.underlying31 w' ) ?_
      refine aS (by kernel_rfl : opAt F58.o3 5 = some (some 32, .makeSlice 31 (.tmp 31) (.tmp 31), none)) rfl rfl (a_make (e := 59) (bytes := 8) (x0 := (⟨0⟩ : U64)) (zs := [.int .u64 0]) hF (j := 6) (by decide) (by kernel_rfl) (by kernel_rfl) rfl rfl (by omega) (by omega) (by omega) (fun h M => rfl)) ?_
      rintro v32 w12 ⟨Cw12, hs, ho, hF⟩
      refine ⟨(hR.trans hs (by simp)).ext, ?_⟩
      replace hT := hT.trans hs (by simp)
      replace hw := hw.st hs (by first | decide | (simp <;> omega))
      replace hz := hz.st hs (by first | decide | (simp <;> omega))
      replace ha := ha.st hs (by first | decide | (simp <;> omega))
      replace hb := hb.st hs (by first | decide | (simp <;> omega))
      replace hr := hr.st hs (by first | decide | (simp <;> omega))
      replace hR := hR.trans hs (by simp)
      refine yS (by kernel_rfl : opAt F58.o3 6 = some (some 33, .build 33 #[(0, (.tmp 28)), (1, (.tmp 32))], none)) rfl rfl (fun w' hS => val_build (zs := [.int .i64 0, .slice none 0 0]) (ps := [(0, 1), (1, 1)]) (qs := [(0, [.int .i64 a.len]), (1, [v32])]) (cs := [.int .i64 a.len, v32]) (by kernel_rfl) (by kernel_rfl) (by exact ⟨rfl, ⟨_, rfl, rfl⟩, rfl, ⟨_, rfl, ho.one.1⟩, trivial⟩) rfl) ?_
      refine aS (by kernel_rfl : opAt F58.o3 7 = some (some 8, .alloc 33, none)) rfl rfl (a_alloc (cs := [.int .i64 0, .slice none 0 0]) hF 7 (by kernel_rfl)) ?_
      rintro _ w13 ⟨Cw13, bw13, rfl, hs, hc, hF⟩
      refine ⟨(hR.trans hs (by simp)).ext, ?_⟩
      replace hT := hT.trans hs (by simp)
      replace hw := hw.st hs (by first | decide | (simp <;> omega))
      replace hz := hz.st hs (by first | decide | (simp <;> omega))
      replace ha := ha.st hs (by first | decide | (simp <;> omega))
      replace hb := hb.st hs (by first | decide | (simp <;> omega))
      replace hr := hr.st hs (by first | decide | (simp <;> omega))
      replace hR := hR.trans hs (by simp)
      replace ho := ho.st hs (by first | decide | (simp <;> omega)) (by first | decide | (simp <;> omega))
      refine Sch.free rfl ?_
      refine aN (by kernel_rfl : opAt F58.o3 8 = some (none, .store 33 (.tmp 8) (.tmp 33), none)) rfl (a_storeAll (vs := [.int .i64 a.len, v32]) (n := 2) rfl rfl (by kernel_rfl) rfl rfl (by intro z hz; simp only [List.mem_cons, List.not_mem_nil, or_false] at hz; rcases hz with rfl | rfl <;> first | rfl | exact ho.one.2) hc rfl) ?_
      rintro _ w14 ⟨rfl, hs, hc⟩
      refine ⟨trivial, ?_⟩
      replace hF := hF.st hs
      replace hT := hT.trans hs (by simp)
      replace hw := hw.st hs (by first | decide | (simp <;> omega))
      replace hz := hz.st hs (by first | decide | (simp <;> omega))
      replace ha := ha.st hs (by first | decide | (simp <;> omega))
      replace hb := hb.st hs (by first | decide | (simp <;> omega))
      replace hr := hr.st hs (by first | decide | (simp <;> omega))
      replace ho := ho.st hs (by first | decide | (simp <;> omega)) (by first | decide | (simp <;> omega))
      refine Sch.nil ?_
      refine run_seq (x := F58.c13) (y := F58.c29) (by kernel_rfl) ?_
      refine run_seq (x := F58.c14) (y := F58.c15) (by kernel_rfl) ?_
      refine run_plain (id := 4) (ops := F58.o4) [(0, true), (1, false), (2, true), (3, true)] (by kernel_rfl) (by kernel_rfl) ?_
      refine yS (by kernel_rfl : opAt F58.o4 0 = some (some 34, .fieldAddr 33 (.tmp 3) 1, none)) rfl rfl (fun w' hS => val_fieldAddr (off := 1) (by kernel_rfl) rfl) ?_
      refine nS (by kernel_rfl : opAt F58.o4 1 = some (some 35, .load 31 (.tmp 34), none)) rfl rfl trivial (val_loadOwn ha.at_ (by kernel_rfl) rfl rfl) ?_
      refine yS (by kernel_rfl : opAt F58.o4 2 = some (some 36, .call { callee := .builtin .len, args := #[(.tmp 35)], argTypes := #[31] }, none)) rfl rfl (fun w' hS => hw.lenV rfl Try.underlying31 w' ) ?_
      refine yS (by kernel_rfl : opAt F58.o4 3 = some (some 37, .move (.const (.int .i64 0)), none)) rfl rfl (fun w' hS => val_move rfl) ?_
      refine Sch.nil ?_
      refine run_block (x := F58.c16) (id := 0) (by kernel_rfl) ?_
      
      refine run_loop (ι := Nat × (Nat → Nat)) (I := fun x w => x.1 ≤ a.words.length ∧ Lim w x.2 ∧ Stp [2, 3, 4, 5, 6, 7, 8, 9] w₀ (col1 C) w x.2 ∧ OwnB w x.2 4 bw2 (.cells [.int .i64 b.len, v].toArray 33) ∧ OwnB w x.2 5 bw3 (.cells [.int .i64 0, .slice none 0 0].toArray 33) ∧ OwnB w x.2 7 bw13 (.cells [.int .i64 a.len, v32].toArray 33) ∧ RV w (Mc x.2) a.words u ∧ RV w (Mc x.2) b.words v ∧ OwnL w x.2 6 59 v32 ((List.zipWith andU a.words b.words).take x.1 ++ List.replicate (a.words.length - x.1) (⟨0⟩ : U64))) (e := fun x => [(2, .func (.func 59) #[] #[]), (4, .pointer (some ⟨bw2, 0, none⟩)), (6, .pointer (some ⟨bw3, 0, none⟩)), (8, .pointer (some ⟨bw13, 0, none⟩)), (35, u), (36, .int .i64 a.words.length), (37, .int .i64 x.1)]) (m := fun x => a.words.length - x.1) (x₀ := (0, Cw13)) (body := F58.c17) (by kernel_rfl) (sub_cons 2 rfl rfl (sub_cons 4 rfl rfl (sub_cons 6 rfl rfl (sub_cons 8 rfl rfl (sub_cons 35 rfl rfl (sub_cons 36 rfl rfl (sub_cons 37 rfl rfl (sub_nil _)))))))) ?_ ?_
      · exact ⟨Nat.zero_le _, hF, hT, hb, hr, hc, hw, hz, by simpa using ho⟩
      intro ⟨k, C1⟩ w15 hI next
      obtain ⟨hk, hF, hT, hb, hr, hc, hw, hz, ho⟩ := hI
      try simp only at hk hF hT hb hr hc hw hz ho
      have next1 := next
      clear next
      show Run _ _ _ _ [(2, .func (.func 59) #[] #[]), (4, .pointer (some ⟨bw2, 0, none⟩)), (6, .pointer (some ⟨bw3, 0, none⟩)), (8, .pointer (some ⟨bw13, 0, none⟩)), (35, u), (36, .int .i64 a.words.length), (37, .int .i64 k)] _ _
      have hzl : ((List.zipWith andU a.words b.words).take k ++ List.replicate (a.words.length - k) (⟨0⟩ : U64)).length = a.words.length := by rw [List.length_append, List.length_take, List.length_zipWith, List.length_replicate]; omega
      refine run_seq (x := F58.c18) (y := F58.c19) (by kernel_rfl) ?_
      refine run_plain (id := 5) (ops := F58.o5) [(0, true)] (by kernel_rfl) (by kernel_rfl) ?_
      refine yS (by kernel_rfl : opAt F58.o5 0 = some (some 38, .binOp .lss 3 (.tmp 37) (.tmp 36) 3, none)) rfl rfl (fun w' hS => val_lss rfl rfl) ?_
      refine Sch.nil ?_
      refine run_seq (x := F58.c20) (y := F58.c23) (by kernel_rfl) ?_
      refine run_if (x := F58.c21) (y := F58.c22) (o := .tmp 38) (by kernel_rfl) rfl (fun h38 => ?_) (fun h38 => ?_)
      · skip
        have hkl : k < a.words.length := by omega
        have hkl2 : k < b.words.length := by omega
        refine run_skip (by kernel_rfl) ?_
        refine run_seq (x := F58.c24) (y := F58.c28) (by kernel_rfl) ?_
        refine run_block (x := F58.c25) (id := 1) (by kernel_rfl) ?_
        refine run_seq (x := F58.c26) (y := F58.c27) (by kernel_rfl) ?_
        refine run_plain (id := 6) (ops := F58.o6) [(0, true), (1, true), (2, false), (3, true), (4, true)] (by kernel_rfl) (by kernel_rfl) ?_
        refine yS (by kernel_rfl : opAt F58.o6 0 = some (some 39, .move (.tmp 37), none)) rfl rfl (fun w' hS => val_move rfl) ?_
        refine iS (e := 59) (by kernel_rfl : opAt F58.o6 1 = some (some 40, .indexAddr 31 (.tmp 35) (.tmp 37), none)) rfl rfl hw rfl (by kernel_rfl) rfl (by omega) (by omega) ?_
        intro b40 o40 h40
        try simp only [Int.toNat_natCast] at h40
        refine lN (by kernel_rfl : opAt F58.o6 2 = some (some 41, .load 59 (.tmp 40), none)) rfl rfl trivial h40 (by kernel_rfl) rfl rfl ?_
        intro v41 g41
        obtain rfl := rv_num.1 g41
        refine yS (by kernel_rfl : opAt F58.o6 3 = some (some 9, .assign (.tmp 39), none)) rfl rfl (fun w' hS => val_assign rfl) ?_
        refine yS (by kernel_rfl : opAt F58.o6 4 = some (some 10, .assign (.tmp 41), none)) rfl rfl (fun w' hS => val_assign rfl) ?_
        refine Sch.nil ?_
        refine run_draw (id := 7) (ops := F58.o7) [6] (C1) [(0, true), (1, true), (2, true), (3, true), (4, true), (5, true), (6, true), (7, true), (8, true), (9, true), (10, false), (11, true), (12, false)] Try_mixed (by kernel_rfl) (by kernel_rfl) (by kernel_rfl) ?_
        intro w16 hs
        replace hF := hF.st hs
        replace hT := hT.trans hs (by simp)
        replace hb := hb.st hs (by first | decide | (simp <;> omega))
        replace hr := hr.st hs (by first | decide | (simp <;> omega))
        replace hc := hc.st hs (by first | decide | (simp <;> omega))
        replace hw := hw.st hs (by first | decide | (simp <;> omega))
        replace hz := hz.st hs (by first | decide | (simp <;> omega))
        replace ho := ho.st hs (by first | decide | (simp <;> omega)) (by first | decide | (simp <;> omega))
        replace h40 := h40.st hs (by first | decide | (simp <;> omega))
        have hR := Stp.refl [6] w16 (C1)
        refine yS (by kernel_rfl : opAt F58.o7 0 = some (some 42, .fieldAddr 33 (.tmp 8) 1, none)) rfl rfl (fun w' hS => val_fieldAddr (off := 1) (by kernel_rfl) rfl) ?_
        refine yS (by kernel_rfl : opAt F58.o7 1 = some (some 43, .load 31 (.tmp 42), none)) rfl rfl (fun w' hS => val_loadOwn (hc.stay hS (by decide)) (by kernel_rfl) rfl rfl) ?_
        refine yS (by kernel_rfl : opAt F58.o7 2 = some (some 44, .move (.tmp 9), none)) rfl rfl (fun w' hS => val_move rfl) ?_
        refine yS (by kernel_rfl : opAt F58.o7 3 = some (some 45, .move (.tmp 2), none)) rfl rfl (fun w' hS => val_move rfl) ?_
        refine yS (by kernel_rfl : opAt F58.o7 4 = some (some 46, .move (.tmp 10), none)) rfl rfl (fun w' hS => val_move rfl) ?_
        refine yS (by kernel_rfl : opAt F58.o7 5 = some (some 47, .fieldAddr 33 (.tmp 4) 1, none)) rfl rfl (fun w' hS => val_fieldAddr (off := 1) (by kernel_rfl) rfl) ?_
        refine yS (by kernel_rfl : opAt F58.o7 6 = some (some 48, .load 31 (.tmp 47), none)) rfl rfl (fun w' hS => val_loadOwn (hb.stay hS (by decide)) (by kernel_rfl) rfl rfl) ?_
        refine yS (by kernel_rfl : opAt F58.o7 7 = some (some 49, .move (.tmp 9), none)) rfl rfl (fun w' hS => val_move rfl) ?_
        refine iS (e := 59) (by kernel_rfl : opAt F58.o7 8 = some (some 50, .indexAddr 31 (.tmp 48) (.tmp 49), none)) rfl rfl hz rfl (by kernel_rfl) rfl (by omega) (by omega) ?_
        intro b50 o50 h50
        try simp only [Int.toNat_natCast] at h50
        refine lS (by kernel_rfl : opAt F58.o7 9 = some (some 51, .load 59 (.tmp 50), none)) rfl rfl (fun w' hS => h50.stay hS (by first | decide | (simp <;> omega))) h50 (by kernel_rfl) rfl rfl ?_
        intro v51 g51
        obtain rfl := rv_num.1 g51
        refine cS (by kernel_rfl : opAt F58.o7 10 = some (some 52, .call { callee := .value (.tmp 45), args := #[(.tmp 46), (.tmp 51)], argTypes := #[59, 59] }, none)) rfl rfl (enters_func Try.call59 rfl rfl) (and1_ok _ _ _) ?_
        rintro vw17 w17 ⟨rfl, rfl⟩
        refine ⟨hR.ext, ?_⟩
        refine oI (e' := 59) (by kernel_rfl : opAt F58.o7 11 = some (some 53, .indexAddr 31 (.tmp 43) (.tmp 44), none)) rfl rfl ho rfl (by kernel_rfl) rfl (by omega) (by omega) ?_
        intro g53 hg53
        try simp only [Int.toNat_natCast]
        refine Sch.free rfl ?_
        refine aN (by kernel_rfl : opAt F58.o7 12 = some (none, .store 59 (.tmp 53) (.tmp 52), none)) rfl (a_storeO ho hg53 (by omega) rfl rfl (by kernel_rfl) (x0 := andU a.words[k] b.words[k]) (rv_num.2 rfl)) ?_
        rintro _ w18 ⟨rfl, hs, ho⟩
        refine ⟨trivial, ?_⟩
        replace hF := hF.st hs
        replace hT := hT.trans hs (by simp)
        replace hb := hb.st hs (by first | decide | (simp <;> omega))
        replace hr := hr.st hs (by first | decide | (simp <;> omega))
        replace hc := hc.st hs (by first | decide | (simp <;> omega))
        replace hw := hw.st hs (by first | decide | (simp <;> omega))
        replace hz := hz.st hs (by first | decide | (simp <;> omega))
        replace h40 := h40.st hs (by first | decide | (simp <;> omega))
        replace h50 := h50.st hs (by first | decide | (simp <;> omega))
        refine Sch.nil ?_
        refine run_inBlock ?_
        refine run_plain (id := 8) (ops := F58.o8) [(0, true), (1, true)] (by kernel_rfl) (by kernel_rfl) ?_
        refine yS (by kernel_rfl : opAt F58.o8 0 = some (some 54, .binOp .add 3 (.tmp 37) (.const (.int .i64 1)) 3, none)) rfl rfl (fun w' hS => val_addi rfl rfl (by omega) (by omega)) ?_
        refine yS (by kernel_rfl : opAt F58.o8 1 = some (some 37, .move (.tmp 54), none)) rfl rfl (fun w' hS => val_move rfl) ?_
        refine Sch.nil ?_
        refine kp (sub_cons 2 rfl rfl (sub_cons 4 rfl rfl (sub_cons 6 rfl rfl (sub_cons 8 rfl rfl (sub_cons 35 rfl rfl (sub_cons 36 rfl rfl (sub_cons 37 rfl (eq_int (by simp)) (sub_nil _)))))))) (next1 (k + 1, C1) _ ⟨(by first | omega | (simp only; omega)), hF, hT, hb, hr, hc, hw, hz, (by simp only; rw [zip_set (by omega) (by omega)] at ho; exact ho)⟩ (by first | omega | (simp only; omega)))
      · skip
        have hkl : k = a.words.length := by omega
        rw [hkl, Nat.sub_self, List.replicate_zero, List.append_nil, List.take_of_length_le (by rw [List.length_zipWith]; omega)] at ho
        have hzz : (List.zipWith andU a.words b.words).length ≤ 8 := by rw [List.length_zipWith]; omega
        refine run_exit (id := 0) (by kernel_rfl) rfl ?_
        refine run_seq (x := F58.c30) (y := F58.c31) (by kernel_rfl) ?_
        refine run_plain (id := 9) (ops := F58.o9) [(0, false), (1, false), (2, true)] (by kernel_rfl) (by kernel_rfl) ?_
        refine nS (by kernel_rfl : opAt F58.o9 0 = some (some 55, .load 33 (.tmp 8), none)) rfl rfl trivial (val_loadOwnAgg (n := 2) (vs := [.int .i64 a.len, v32]) hc.at_ (by kernel_rfl) (by kernel_rfl) rfl rfl rfl) ?_
        refine aN (by kernel_rfl : opAt F58.o9 1 = some (none, .store 33 (.tmp 6) (.tmp 55), none)) rfl (a_storeAll (vs := [.int .i64 a.len, v32]) (n := 2) rfl rfl (by kernel_rfl) rfl rfl (by intro z hz; simp only [List.mem_cons, List.not_mem_nil, or_false] at hz; rcases hz with rfl | rfl <;> first | rfl | exact ho.one.2) hr rfl) ?_
        rintro _ w19 ⟨rfl, hs, hr⟩
        refine ⟨trivial, ?_⟩
        replace hF := hF.st hs
        replace hT := hT.trans hs (by simp)
        replace hb := hb.st hs (by first | decide | (simp <;> omega))
        replace hc := hc.st hs (by first | decide | (simp <;> omega))
        replace hw := hw.st hs (by first | decide | (simp <;> omega))
        replace hz := hz.st hs (by first | decide | (simp <;> omega))
        replace ho := ho.st hs (by first | decide | (simp <;> omega)) (by first | decide | (simp <;> omega))
        refine yS (by kernel_rfl : opAt F58.o9 2 = some (some 7, .assign (.const (.int .i64 0)), none)) rfl rfl (fun w' hS => val_assign rfl) ?_
        refine Sch.nil ?_
        refine run_retC2 (by kernel_rfl) Try.func58 Try.results58 rfl rfl hr.at_ (by kernel_rfl) (by kernel_rfl) rfl ?_
        exact ⟨andB a b, _, _, rfl, hT.out1 (by decide), ho.out hT hF0 (Mc_col1 C) (fun b _ => col1_lt C (by decide) b) (by omega), fun _ => ⟨rfl, rfl⟩, fun e => absurd hok e⟩
    · skip
      intro w20 hs
      replace hF := hF.st hs
      replace hT := hT.trans hs (by simp)
      replace hw := hw.st hs (by first | decide | (simp <;> omega))
      replace hz := hz.st hs (by first | decide | (simp <;> omega))
      replace ha := ha.st hs (by first | decide | (simp <;> omega))
      replace hb := hb.st hs (by first | decide | (simp <;> omega))
      replace hr := hr.st hs (by first | decide | (simp <;> omega))
      show Sch _ _ _ _ _ _ _ [(0, true), (1, true), (2, true), (3, true), (4, true), (7, false), (5, false), (6, true), (8, false)] _ _
      have hR := Stp.refl [7] w20 (Cw3)
      refine yS (by kernel_rfl : opAt F58.o3 0 = some (some 27, .fieldAddr 33 (.tmp 3) 0, none)) rfl rfl (fun w' hS => val_fieldAddr (off := 0) (by kernel_rfl) rfl) ?_
      refine yS (by kernel_rfl : opAt F58.o3 1 = some (some 28, .load 3 (.tmp 27), none)) rfl rfl (fun w' hS => val_loadOwn (ha.stay hS (by decide)) (by kernel_rfl) rfl rfl) ?_
      refine yS (by kernel_rfl : opAt F58.o3 2 = some (some 29, .fieldAddr 33 (.tmp 3) 1, none)) rfl rfl (fun w' hS => val_fieldAddr (off := 1) (by kernel_rfl) rfl) ?_
      refine yS (by kernel_rfl : opAt F58.o3 3 = some (some 30, .load 31 (.tmp 29), none)) rfl rfl (fun w' hS => val_loadOwn (ha.stay hS (by decide)) (by kernel_rfl) rfl rfl) ?_
      refine yS (by kernel_rfl : opAt F58.o3 4 = some (some 31, .call { callee := .builtin .len, args := #[(.tmp 30)], argTypes := #[31] }, none)) rfl rfl (fun w' hS => hw.lenV rfl Try.underlying31 w' ) ?_
      refine aS (by kernel_rfl : opAt F58.o3 7 = some (some 8, .alloc 33, none)) rfl rfl (a_alloc (cs := [.int .i64 0, .slice none 0 0]) hF 7 (by kernel_rfl)) ?_
      rintro _ w21 ⟨Cw21, bw21, rfl, hs, hc, hF⟩
      refine ⟨(hR.trans hs (by simp)).ext, ?_⟩
      replace hT := hT.trans hs (by simp)
      replace hw := hw.st hs (by first | decide | (simp <;> omega))
      replace hz := hz.st hs (by first | decide | (simp <;> omega))
      replace ha := ha.st hs (by first | decide | (simp <;> omega))
      replace hb := hb.st hs (by first | decide | (simp <;> omega))
      replace hr := hr.st hs (by first | decide | (simp <;> omega))
      replace hR := hR.trans hs (by simp)
      refine aS (by kernel_rfl : opAt F58.o3 5 = some (some 32, .makeSlice 31 (.tmp 31) (.tmp 31), none)) rfl rfl (a_make (e := 59) (bytes := 8) (x0 := (⟨0⟩ : U64)) (zs := [.int .u64 0]) hF (j := 6) (by decide) (by kernel_rfl) (by kernel_rfl) rfl rfl (by omega) (by omega) (by omega) (fun h M => rfl)) ?_
      rintro v32 w22 ⟨Cw22, hs, ho, hF⟩
      refine ⟨(hR.trans hs (by simp)).ext, ?_⟩
      replace hT := hT.trans hs (by simp)
      replace hw := hw.st hs (by first | decide | (simp <;> omega))
      replace hz := hz.st hs (by first | decide | (simp <;> omega))
      replace ha := ha.st hs (by first | decide | (simp <;> omega))
      replace hb := hb.st hs (by first | decide | (simp <;> omega))
      replace hr := hr.st hs (by first | decide | (simp <;> omega))
      replace hR := hR.trans hs (by simp)
      replace hc := hc.st hs (by first | decide | (simp <;> omega))
      refine yS (by kernel_rfl : opAt F58.o3 6 = some (some 33, .build 33 #[(0, (.tmp 28)), (1, (.tmp 32))], none)) rfl rfl (fun w' hS => val_build (zs := [.int .i64 0, .slice none 0 0]) (ps := [(0, 1), (1, 1)]) (qs := [(0, [.int .i64 a.len]), (1, [v32])]) (cs := [.int .i64 a.len, v32]) (by kernel_rfl) (by kernel_rfl) (by exact ⟨rfl, ⟨_, rfl, rfl⟩, rfl, ⟨_, rfl, ho.one.1⟩, trivial⟩) rfl) ?_
      refine Sch.free rfl ?_
      refine aN (by kernel_rfl : opAt F58.o3 8 = some (none, .store 33 (.tmp 8) (.tmp 33), none)) rfl (a_storeAll (vs := [.int .i64 a.len, v32]) (n := 2) rfl rfl (by kernel_rfl) rfl rfl (by intro z hz; simp only [List.mem_cons, List.not_mem_nil, or_false] at hz; rcases hz with rfl | rfl <;> first | rfl | exact ho.one.2) hc rfl) ?_
      rintro _ w23 ⟨rfl, hs, hc⟩
      refine ⟨trivial, ?_⟩
      replace hF := hF.st hs
      replace hT := hT.trans hs (by simp)
      replace hw := hw.st hs (by first | decide | (simp <;> omega))
      replace hz := hz.st hs (by first | decide | (simp <;> omega))
      replace ha := ha.st hs (by first | decide | (simp <;> omega))
      replace hb := hb.st hs (by first | decide | (simp <;> omega))
      replace hr := hr.st hs (by first | decide | (simp <;> omega))
      replace ho := ho.st hs (by first | decide | (simp <;> omega)) (by first | decide | (simp <;> omega))
      refine Sch.nil ?_
      refine run_seq (x := F58.c13) (y := F58.c29) (by kernel_rfl) ?_
      refine run_seq (x := F58.c14) (y := F58.c15) (by kernel_rfl) ?_
      refine run_plain (id := 4) (ops := F58.o4) [(0, true), (1, false), (2, true), (3, true)] (by kernel_rfl) (by kernel_rfl) ?_
      refine yS (by kernel_rfl : opAt F58.o4 0 = some (some 34, .fieldAddr 33 (.tmp 3) 1, none)) rfl rfl (fun w' hS => val_fieldAddr (off := 1) (by kernel_rfl) rfl) ?_
      refine nS (by kernel_rfl : opAt F58.o4 1 = some (some 35, .load 31 (.tmp 34), none)) rfl rfl trivial (val_loadOwn ha.at_ (by kernel_rfl) rfl rfl) ?_
      refine yS (by kernel_rfl : opAt F58.o4 2 = some (some 36, .call { callee := .builtin .len, args := #[(.tmp 35)], argTypes := #[31] }, none)) rfl rfl (fun w' hS => hw.lenV rfl Try.underlying31 w' ) ?_
      refine yS (by kernel_rfl : opAt F58.o4 3 = some (some 37, .move (.const (.int .i64 0)), none)) rfl rfl (fun w' hS => val_move rfl) ?_
      refine Sch.nil ?_
      refine run_block (x := F58.c16) (id := 0) (by kernel_rfl) ?_
      
      refine run_loop (ι := Nat × (Nat → Nat)) (I := fun x w => x.1 ≤ a.words.length ∧ Lim w x.2 ∧ Stp [2, 3, 4, 5, 6, 7, 8, 9] w₀ (col1 C) w x.2 ∧ OwnB w x.2 4 bw2 (.cells [.int .i64 b.len, v].toArray 33) ∧ OwnB w x.2 5 bw3 (.cells [.int .i64 0, .slice none 0 0].toArray 33) ∧ OwnB w x.2 7 bw21 (.cells [.int .i64 a.len, v32].toArray 33) ∧ RV w (Mc x.2) a.words u ∧ RV w (Mc x.2) b.words v ∧ OwnL w x.2 6 59 v32 ((List.zipWith andU a.words b.words).take x.1 ++ List.replicate (a.words.length - x.1) (⟨0⟩ : U64))) (e := fun x => [(2, .func (.func 59) #[] #[]), (4, .pointer (some ⟨bw2, 0, none⟩)), (6, .pointer (some ⟨bw3, 0, none⟩)), (8, .pointer (some ⟨bw21, 0, none⟩)), (35, u), (36, .int .i64 a.words.length), (37, .int .i64 x.1)]) (m := fun x => a.words.length - x.1) (x₀ := (0, Cw22)) (body := F58.c17) (by kernel_rfl) (sub_cons 2 rfl rfl (sub_cons 4 rfl rfl (sub_cons 6 rfl rfl (sub_cons 8 rfl rfl (sub_cons 35 rfl rfl (sub_cons 36 rfl rfl (sub_cons 37 rfl rfl (sub_nil _)))))))) ?_ ?_
      · exact ⟨Nat.zero_le _, hF, hT, hb, hr, hc, hw, hz, by simpa using ho⟩
      intro ⟨k, C1⟩ w24 hI next
      obtain ⟨hk, hF, hT, hb, hr, hc, hw, hz, ho⟩ := hI
      try simp only at hk hF hT hb hr hc hw hz ho
      have next2 := next
      clear next
      show Run _ _ _ _ [(2, .func (.func 59) #[] #[]), (4, .pointer (some ⟨bw2, 0, none⟩)), (6, .pointer (some ⟨bw3, 0, none⟩)), (8, .pointer (some ⟨bw21, 0, none⟩)), (35, u), (36, .int .i64 a.words.length), (37, .int .i64 k)] _ _
      have hzl : ((List.zipWith andU a.words b.words).take k ++ List.replicate (a.words.length - k) (⟨0⟩ : U64)).length = a.words.length := by rw [List.length_append, List.length_take, List.length_zipWith, List.length_replicate]; omega
      refine run_seq (x := F58.c18) (y := F58.c19) (by kernel_rfl) ?_
      refine run_plain (id := 5) (ops := F58.o5) [(0, true)] (by kernel_rfl) (by kernel_rfl) ?_
      refine yS (by kernel_rfl : opAt F58.o5 0 = some (some 38, .binOp .lss 3 (.tmp 37) (.tmp 36) 3, none)) rfl rfl (fun w' hS => val_lss rfl rfl) ?_
      refine Sch.nil ?_
      refine run_seq (x := F58.c20) (y := F58.c23) (by kernel_rfl) ?_
      refine run_if (x := F58.c21) (y := F58.c22) (o := .tmp 38) (by kernel_rfl) rfl (fun h38 => ?_) (fun h38 => ?_)
      · skip
        have hkl : k < a.words.length := by omega
        have hkl2 : k < b.words.length := by omega
        refine run_skip (by kernel_rfl) ?_
        refine run_seq (x := F58.c24) (y := F58.c28) (by kernel_rfl) ?_
        refine run_block (x := F58.c25) (id := 1) (by kernel_rfl) ?_
        refine run_seq (x := F58.c26) (y := F58.c27) (by kernel_rfl) ?_
        refine run_plain (id := 6) (ops := F58.o6) [(0, true), (1, true), (2, false), (3, true), (4, true)] (by kernel_rfl) (by kernel_rfl) ?_
        refine yS (by kernel_rfl : opAt F58.o6 0 = some (some 39, .move (.tmp 37), none)) rfl rfl (fun w' hS => val_move rfl) ?_
        refine iS (e := 59) (by kernel_rfl : opAt F58.o6 1 = some (some 40, .indexAddr 31 (.tmp 35) (.tmp 37), none)) rfl rfl hw rfl (by kernel_rfl) rfl (by omega) (by omega) ?_
        intro b40 o40 h40
        try simp only [Int.toNat_natCast] at h40
        refine lN (by kernel_rfl : opAt F58.o6 2 = some (some 41, .load 59 (.tmp 40), none)) rfl rfl trivial h40 (by kernel_rfl) rfl rfl ?_
        intro v41 g41
        obtain rfl := rv_num.1 g41
        refine yS (by kernel_rfl : opAt F58.o6 3 = some (some 9, .assign (.tmp 39), none)) rfl rfl (fun w' hS => val_assign rfl) ?_
        refine yS (by kernel_rfl : opAt F58.o6 4 = some (some 10, .assign (.tmp 41), none)) rfl rfl (fun w' hS => val_assign rfl) ?_
        refine Sch.nil ?_
        refine run_draw (id := 7) (ops := F58.o7) [6] (C1) [(0, true), (1, true), (2, true), (3, true), (4, true), (5, true), (6, true), (7, true), (8, true), (9, true), (10, false), (11, true), (12, false)] Try_mixed (by kernel_rfl) (by kernel_rfl) (by kernel_rfl) ?_
        intro w25 hs
        replace hF := hF.st hs
        replace hT := hT.trans hs (by simp)
        replace hb := hb.st hs (by first | decide | (simp <;> omega))
        replace hr := hr.st hs (by first | decide | (simp <;> omega))
        replace hc := hc.st hs (by first | decide | (simp <;> omega))
        replace hw := hw.st hs (by first | decide | (simp <;> omega))
        replace hz := hz.st hs (by first | decide | (simp <;> omega))
        replace ho := ho.st hs (by first | decide | (simp <;> omega)) (by first | decide | (simp <;> omega))
        replace h40 := h40.st hs (by first | decide | (simp <;> omega))
        have hR := Stp.refl [6] w25 (C1)
        refine yS (by kernel_rfl : opAt F58.o7 0 = some (some 42, .fieldAddr 33 (.tmp 8) 1, none)) rfl rfl (fun w' hS => val_fieldAddr (off := 1) (by kernel_rfl) rfl) ?_
        refine yS (by kernel_rfl : opAt F58.o7 1 = some (some 43, .load 31 (.tmp 42), none)) rfl rfl (fun w' hS => val_loadOwn (hc.stay hS (by decide)) (by kernel_rfl) rfl rfl) ?_
        refine yS (by kernel_rfl : opAt F58.o7 2 = some (some 44, .move (.tmp 9), none)) rfl rfl (fun w' hS => val_move rfl) ?_
        refine yS (by kernel_rfl : opAt F58.o7 3 = some (some 45, .move (.tmp 2), none)) rfl rfl (fun w' hS => val_move rfl) ?_
        refine yS (by kernel_rfl : opAt F58.o7 4 = some (some 46, .move (.tmp 10), none)) rfl rfl (fun w' hS => val_move rfl) ?_
        refine yS (by kernel_rfl : opAt F58.o7 5 = some (some 47, .fieldAddr 33 (.tmp 4) 1, none)) rfl rfl (fun w' hS => val_fieldAddr (off := 1) (by kernel_rfl) rfl) ?_
        refine yS (by kernel_rfl : opAt F58.o7 6 = some (some 48, .load 31 (.tmp 47), none)) rfl rfl (fun w' hS => val_loadOwn (hb.stay hS (by decide)) (by kernel_rfl) rfl rfl) ?_
        refine yS (by kernel_rfl : opAt F58.o7 7 = some (some 49, .move (.tmp 9), none)) rfl rfl (fun w' hS => val_move rfl) ?_
        refine iS (e := 59) (by kernel_rfl : opAt F58.o7 8 = some (some 50, .indexAddr 31 (.tmp 48) (.tmp 49), none)) rfl rfl hz rfl (by kernel_rfl) rfl (by omega) (by omega) ?_
        intro b50 o50 h50
        try simp only [Int.toNat_natCast] at h50
        refine lS (by kernel_rfl : opAt F58.o7 9 = some (some 51, .load 59 (.tmp 50), none)) rfl rfl (fun w' hS => h50.stay hS (by first | decide | (simp <;> omega))) h50 (by kernel_rfl) rfl rfl ?_
        intro v51 g51
        obtain rfl := rv_num.1 g51
        refine cS (by kernel_rfl : opAt F58.o7 10 = some (some 52, .call { callee := .value (.tmp 45), args := #[(.tmp 46), (.tmp 51)], argTypes := #[59, 59] }, none)) rfl rfl (enters_func Try.call59 rfl rfl) (and1_ok _ _ _) ?_
        rintro vw26 w26 ⟨rfl, rfl⟩
        refine ⟨hR.ext, ?_⟩
        refine oI (e' := 59) (by kernel_rfl : opAt F58.o7 11 = some (some 53, .indexAddr 31 (.tmp 43) (.tmp 44), none)) rfl rfl ho rfl (by kernel_rfl) rfl (by omega) (by omega) ?_
        intro g53 hg53
        try simp only [Int.toNat_natCast]
        refine Sch.free rfl ?_
        refine aN (by kernel_rfl : opAt F58.o7 12 = some (none, .store 59 (.tmp 53) (.tmp 52), none)) rfl (a_storeO ho hg53 (by omega) rfl rfl (by kernel_rfl) (x0 := andU a.words[k] b.words[k]) (rv_num.2 rfl)) ?_
        rintro _ w27 ⟨rfl, hs, ho⟩
        refine ⟨trivial, ?_⟩
        replace hF := hF.st hs
        replace hT := hT.trans hs (by simp)
        replace hb := hb.st hs (by first | decide | (simp <;> omega))
        replace hr := hr.st hs (by first | decide | (simp <;> omega))
        replace hc := hc.st hs (by first | decide | (simp <;> omega))
        replace hw := hw.st hs (by first | decide | (simp <;> omega))
        replace hz := hz.st hs (by first | decide | (simp <;> omega))
        replace h40 := h40.st hs (by first | decide | (simp <;> omega))
        replace h50 := h50.st hs (by first | decide | (simp <;> omega))
        refine Sch.nil ?_
        refine run_inBlock ?_
        refine run_plain (id := 8) (ops := F58.o8) [(0, true), (1, true)] (by kernel_rfl) (by kernel_rfl) ?_
        refine yS (by kernel_rfl : opAt F58.o8 0 = some (some 54, .binOp .add 3 (.tmp 37) (.const (.int .i64 1)) 3, none)) rfl rfl (fun w' hS => val_addi rfl rfl (by omega) (by omega)) ?_
        refine yS (by kernel_rfl : opAt F58.o8 1 = some (some 37, .move (.tmp 54), none)) rfl rfl (fun w' hS => val_move rfl) ?_
        refine Sch.nil ?_
        refine kp (sub_cons 2 rfl rfl (sub_cons 4 rfl rfl (sub_cons 6 rfl rfl (sub_cons 8 rfl rfl (sub_cons 35 rfl rfl (sub_cons 36 rfl rfl (sub_cons 37 rfl (eq_int (by simp)) (sub_nil _)))))))) (next2 (k + 1, C1) _ ⟨(by first | omega | (simp only; omega)), hF, hT, hb, hr, hc, hw, hz, (by simp only; rw [zip_set (by omega) (by omega)] at ho; exact ho)⟩ (by first | omega | (simp only; omega)))
      · skip
        have hkl : k = a.words.length := by omega
        rw [hkl, Nat.sub_self, List.replicate_zero, List.append_nil, List.take_of_length_le (by rw [List.length_zipWith]; omega)] at ho
        have hzz : (List.zipWith andU a.words b.words).length ≤ 8 := by rw [List.length_zipWith]; omega
        refine run_exit (id := 0) (by kernel_rfl) rfl ?_
        refine run_seq (x := F58.c30) (y := F58.c31) (by kernel_rfl) ?_
        refine run_plain (id := 9) (ops := F58.o9) [(0, false), (1, false), (2, true)] (by kernel_rfl) (by kernel_rfl) ?_
        refine nS (by kernel_rfl : opAt F58.o9 0 = some (some 55, .load 33 (.tmp 8), none)) rfl rfl trivial (val_loadOwnAgg (n := 2) (vs := [.int .i64 a.len, v32]) hc.at_ (by kernel_rfl) (by kernel_rfl) rfl rfl rfl) ?_
        refine aN (by kernel_rfl : opAt F58.o9 1 = some (none, .store 33 (.tmp 6) (.tmp 55), none)) rfl (a_storeAll (vs := [.int .i64 a.len, v32]) (n := 2) rfl rfl (by kernel_rfl) rfl rfl (by intro z hz; simp only [List.mem_cons, List.not_mem_nil, or_false] at hz; rcases hz with rfl | rfl <;> first | rfl | exact ho.one.2) hr rfl) ?_
        rintro _ w28 ⟨rfl, hs, hr⟩
        refine ⟨trivial, ?_⟩
        replace hF := hF.st hs
        replace hT := hT.trans hs (by simp)
        replace hb := hb.st hs (by first | decide | (simp <;> omega))
        replace hc := hc.st hs (by first | decide | (simp <;> omega))
        replace hw := hw.st hs (by first | decide | (simp <;> omega))
        replace hz := hz.st hs (by first | decide | (simp <;> omega))
        replace ho := ho.st hs (by first | decide | (simp <;> omega)) (by first | decide | (simp <;> omega))
        refine yS (by kernel_rfl : opAt F58.o9 2 = some (some 7, .assign (.const (.int .i64 0)), none)) rfl rfl (fun w' hS => val_assign rfl) ?_
        refine Sch.nil ?_
        refine run_retC2 (by kernel_rfl) Try.func58 Try.results58 rfl rfl hr.at_ (by kernel_rfl) (by kernel_rfl) rfl ?_
        exact ⟨andB a b, _, _, rfl, hT.out1 (by decide), ho.out hT hF0 (Mc_col1 C) (fun b _ => col1_lt C (by decide) b) (by omega), fun _ => ⟨rfl, rfl⟩, fun e => absurd hok e⟩
namespace F46
noncomputable def c0 : Code := bodyOf Try.f46
noncomputable def c1 : Code := cl c0
noncomputable def o0 : Array Oper := rops c1
noncomputable def c2 : Code := cr c0
noncomputable def c3 : Code := cl c2
noncomputable def o1 : Array Oper := rops c3
noncomputable def c4 : Code := cr c2
end F46
theorem and_ok {w₀ : World} {C : Nat → Nat} {a b : Bits} {u v : Value} (hF : Lim w₀ C) (hw : RV w₀ (Mc C) a.words u) (hz : RV w₀ (Mc C) b.words v) : Calls Try.prog 46 #[.agg #[.int .i64 a.len, u], .agg #[.int .i64 b.len, v]] w₀ (Ret fun r w' => ∃ (c : Bits) (z : Value) (e : Int), r = .tuple #[.agg #[.int .i64 c.len, z], .int .i64 e] ∧ Stp [] w₀ C w' C ∧ RV w' (Mc C) c.words z ∧ (andOK a b → c = andB a b ∧ e = 0) ∧ (¬ andOK a b → e = 8)) := by
  have hF0 := hF
  have hT := Stp.refl [2, 3, 4, 5, 6, 7, 8, 9] w₀ (col1 C)
  replace hF := hF.col1
  replace hw : RV w₀ (Mc (col1 C)) a.words u := by rw [Mc_col1]; exact hw
  replace hz : RV w₀ (Mc (col1 C)) b.words v := by rw [Mc_col1]; exact hz
  refine calls_start (c := F46.c0) (N := 11) [.agg #[.int .i64 a.len, u], .agg #[.int .i64 b.len, v]] Try.func46 (by kernel_rfl) (by kernel_rfl) (by kernel_rfl) ?_
  show Run _ _ _ _ [(0, .agg #[.int .i64 a.len, u]), (1, .agg #[.int .i64 b.len, v])] _ _
  refine run_seq (x := F46.c1) (y := F46.c2) (by kernel_rfl) ?_
  refine run_plain (id := 0) (ops := F46.o0) [(0, false), (1, false), (2, false), (3, true)] (by kernel_rfl) (by kernel_rfl) ?_
  refine aS (by kernel_rfl : opAt F46.o0 0 = some (some 2, .box 33 (.tmp 0), none)) rfl rfl (a_box (cs := [.int .i64 a.len, u]) hF 3 rfl rfl) ?_
  rintro _ w1 ⟨Cw1, bw1, rfl, hs, ha, hF⟩
  refine ⟨trivial, ?_⟩
  replace hT := hT.trans hs (by simp)
  replace hw := hw.st hs (by first | decide | (simp <;> omega))
  replace hz := hz.st hs (by first | decide | (simp <;> omega))
  refine aS (by kernel_rfl : opAt F46.o0 1 = some (some 3, .box 33 (.tmp 1), none)) rfl rfl (a_box (cs := [.int .i64 b.len, v]) hF 4 rfl rfl) ?_
  rintro _ w2 ⟨Cw2, bw2, rfl, hs, hb, hF⟩
  refine ⟨trivial, ?_⟩
  replace hT := hT.trans hs (by simp)
  replace hw := hw.st hs (by first | decide | (simp <;> omega))
  replace hz := hz.st hs (by first | decide | (simp <;> omega))
  replace ha := ha.st hs (by first | decide | (simp <;> omega))
  refine aS (by kernel_rfl : opAt F46.o0 2 = some (some 4, .alloc 33, none)) rfl rfl (a_alloc (cs := [.int .i64 0, .slice none 0 0]) hF 5 (by kernel_rfl)) ?_
  rintro _ w3 ⟨Cw3, bw3, rfl, hs, hr, hF⟩
  refine ⟨trivial, ?_⟩
  replace hT := hT.trans hs (by simp)
  replace hw := hw.st hs (by first | decide | (simp <;> omega))
  replace hz := hz.st hs (by first | decide | (simp <;> omega))
  replace ha := ha.st hs (by first | decide | (simp <;> omega))
  replace hb := hb.st hs (by first | decide | (simp <;> omega))
  refine yS (by kernel_rfl : opAt F46.o0 3 = some (some 5, .assign (.const (.int .i64 0)), none)) rfl rfl (fun w' hS => val_assign rfl) ?_
  refine Sch.nil ?_
  refine run_seq (x := F46.c3) (y := F46.c4) (by kernel_rfl) ?_
  refine run_plain (id := 1) (ops := F46.o1) [(0, false), (1, false), (2, false), (3, true), (4, true), (5, false), (6, true)] (by kernel_rfl) (by kernel_rfl) ?_
  refine nS (by kernel_rfl : opAt F46.o1 0 = some (some 6, .load 33 (.tmp 2), none)) rfl rfl trivial (val_loadOwnAgg (n := 2) (vs := [.int .i64 a.len, u]) ha.at_ (by kernel_rfl) (by kernel_rfl) rfl rfl rfl) ?_
  refine nS (by kernel_rfl : opAt F46.o1 1 = some (some 7, .load 33 (.tmp 3), none)) rfl rfl trivial (val_loadOwnAgg (n := 2) (vs := [.int .i64 b.len, v]) hb.at_ (by kernel_rfl) (by kernel_rfl) rfl rfl rfl) ?_
  refine cS (by kernel_rfl : opAt F46.o1 2 = some (some 8, .call { callee := .value (.func 58), args := #[(.tmp 6), (.tmp 7), (.func 59)], argTypes := #[33, 33, 96] }, none)) rfl rfl (ent Try.call58 rfl) (both_ok hF hw hz) ?_
  rintro vw4 w4 ⟨c, z, e, rfl, hs, hcz, hy, hn⟩
  refine ⟨trivial, ?_⟩
  replace hF := hF.st hs
  replace hT := hT.trans hs (by simp)
  replace hw := hw.st hs (by first | decide | (simp <;> omega))
  replace hz := hz.st hs (by first | decide | (simp <;> omega))
  replace ha := ha.st hs (by first | decide | (simp <;> omega))
  replace hb := hb.st hs (by first | decide | (simp <;> omega))
  replace hr := hr.st hs (by first | decide | (simp <;> omega))
  refine yS (by kernel_rfl : opAt F46.o1 3 = some (some 9, .extract (.tmp 8) 0, none)) rfl rfl (fun w' hS => val_extract rfl rfl) ?_
  refine yS (by kernel_rfl : opAt F46.o1 4 = some (some 10, .extract (.tmp 8) 1, none)) rfl rfl (fun w' hS => val_extract rfl rfl) ?_
  refine aN (by kernel_rfl : opAt F46.o1 5 = some (none, .store 33 (.tmp 4) (.tmp 9), none)) rfl (a_storeAll (vs := [.int .i64 c.len, z]) (n := 2) rfl rfl (by kernel_rfl) rfl rfl (by intro z hz; simp only [List.mem_cons, List.not_mem_nil, or_false] at hz; rcases hz with rfl | rfl <;> first | rfl | exact (hcz.one rfl).2) hr rfl) ?_
  rintro _ w5 ⟨rfl, hs, hr⟩
  refine ⟨trivial, ?_⟩
  replace hF := hF.st hs
  replace hT := hT.trans hs (by simp)
  replace hw := hw.st hs (by first | decide | (simp <;> omega))
  replace hz := hz.st hs (by first | decide | (simp <;> omega))
  replace ha := ha.st hs (by first | decide | (simp <;> omega))
  replace hb := hb.st hs (by first | decide | (simp <;> omega))
  replace hcz := hcz.st hs (by first | decide | (simp <;> omega))
  refine yS (by kernel_rfl : opAt F46.o1 6 = some (some 5, .assign (.tmp 10), none)) rfl rfl (fun w' hS => val_assign rfl) ?_
  refine Sch.nil ?_
  refine run_retC2 (by kernel_rfl) Try.func46 Try.results46 rfl rfl hr.at_ (by kernel_rfl) (by kernel_rfl) rfl ?_
  exact ⟨c, z, e, rfl, hT.out1 (by decide), hcz.out hT hF0 (Mc_col1 C), hy, hn⟩
end Go.Proofs.Ytbdlkdiadplmcaa
