/- Steps through functions of the program. -/
import Derived.Test.YtgooehopkmbkfaaJU6
import Derived.Test.YtgooehopkmbkfaaL2
set_option linter.unusedVariables false
set_option linter.unusedSimpArgs false
set_option maxRecDepth 100000
set_option maxHeartbeats 4000000
namespace Go.Proofs.Ytgooehopkmbkfaa
open Go.K Go.K.Rep

namespace F60
noncomputable def c0 : Code := bodyOf Try.f60
noncomputable def c1 : Code := cl c0
noncomputable def o0 : Array Oper := rops c1
noncomputable def c2 : Code := cr c0
noncomputable def c3 : Code := cl c2
noncomputable def c4 : Code := cl c3
noncomputable def o1 : Array Oper := rops c4
noncomputable def c5 : Code := cr c3
noncomputable def c6 : Code := cl c5
noncomputable def o2 : Array Oper := rops c6
noncomputable def c7 : Code := cr c5
noncomputable def c8 : Code := cr c2
noncomputable def c9 : Code := cl c8
noncomputable def c10 : Code := cl c9
noncomputable def o3 : Array Oper := rops c10
noncomputable def c11 : Code := cr c9
noncomputable def c12 : Code := cl c11
noncomputable def o4 : Array Oper := rops c12
noncomputable def c13 : Code := cr c11
noncomputable def c14 : Code := cl c13
noncomputable def o5 : Array Oper := rops c14
noncomputable def c15 : Code := cr c13
noncomputable def c16 : Code := cr c8
noncomputable def c17 : Code := cl c16
noncomputable def o6 : Array Oper := rops c17
noncomputable def c18 : Code := cr c16
end F60
/-- 'slices.Grow' of no list. -/
theorem grow_ok {w₀ : World} {C : Nat → Nat} {k : Nat} (hF : Lim w₀ C) (hk : k ≤ 1000000) (j : Nat) (hj : j ≠ 0) : Calls Try.prog 60 #[.slice none 0 0, .int .i64 k] w₀ (Ret fun v w' => ∃ C', Stp [] w₀ C w' C' ∧ Lim w' C' ∧ OwnL w' C' j 3 v ([] : List Int)) := by
  have hF0 := hF
  have hT := Stp.refl [2, 3, 4, 5, 6, 7, 8, 9] w₀ (col1 C)
  replace hF := hF.col1
  refine calls_start (c := F60.c0) (N := 27) [.slice none 0 0, .int .i64 k] Try.func60 (by kernel_rfl) (by kernel_rfl) (by kernel_rfl) ?_
  show Run _ _ _ _ [(0, .slice none 0 0), (1, .int .i64 k)] _ _
  refine run_seq (x := F60.c1) (y := F60.c2) (by kernel_rfl) ?_
  refine run_plain (id := 0) (ops := F60.o0) [(0, true)] (by kernel_rfl) (by kernel_rfl) ?_
  refine yS (by kernel_rfl : opAt F60.o0 0 = some (some 4, .assign (.const (.slice none 0 0)), none)) rfl rfl (fun w' hS => val_assign rfl) ?_
  refine Sch.nil ?_
  refine run_seq (x := F60.c3) (y := F60.c8) (by kernel_rfl) ?_
  refine run_seq (x := F60.c4) (y := F60.c5) (by kernel_rfl) ?_
  refine run_plain (id := 1) (ops := F60.o1) [(0, true), (1, true)] (by kernel_rfl) (by kernel_rfl) ?_
  refine yS (by kernel_rfl : opAt F60.o1 0 = some (some 5, .move (.tmp 1), none)) rfl rfl (fun w' hS => val_move rfl) ?_
  refine yS (by kernel_rfl : opAt F60.o1 1 = some (some 6, .binOp .lss 3 (.tmp 5) (.const (.int .i64 0)) 3, none)) rfl rfl (fun w' hS => val_lss rfl rfl) ?_
  refine Sch.nil ?_
  refine run_if (x := F60.c6) (y := F60.c7) (o := .tmp 6) (by kernel_rfl) rfl (fun h6 => ?_) (fun h6 => ?_)
  · skip
    omega
  · skip
    refine run_skip (by kernel_rfl) ?_
    refine run_seq (x := F60.c9) (y := F60.c16) (by kernel_rfl) ?_
    refine run_seq (x := F60.c10) (y := F60.c11) (by kernel_rfl) ?_
    refine run_plain (id := 3) (ops := F60.o3) [(0, true), (1, true), (2, false), (3, true), (4, true), (5, true), (6, true), (7, true)] (by kernel_rfl) (by kernel_rfl) ?_
    refine yS (by kernel_rfl : opAt F60.o3 0 = some (some 8, .move (.tmp 1), none)) rfl rfl (fun w' hS => val_move rfl) ?_
    refine yS (by kernel_rfl : opAt F60.o3 1 = some (some 9, .move (.tmp 0), none)) rfl rfl (fun w' hS => val_move rfl) ?_
    refine nS (by kernel_rfl : opAt F60.o3 2 = some (some 10, .call { callee := .builtin .cap, args := #[(.tmp 9)], argTypes := #[22] }, none)) rfl rfl trivial (val_cap_slice rfl Try.underlying22) ?_
    refine yS (by kernel_rfl : opAt F60.o3 3 = some (some 11, .move (.tmp 0), none)) rfl rfl (fun w' hS => val_move rfl) ?_
    refine yS (by kernel_rfl : opAt F60.o3 4 = some (some 12, .call { callee := .builtin .len, args := #[(.tmp 11)], argTypes := #[22] }, none)) rfl rfl (fun w' hS => val_len_slice rfl Try.underlying22) ?_
    refine yS (by kernel_rfl : opAt F60.o3 5 = some (some 13, .binOp .sub 3 (.tmp 10) (.tmp 12) 3, none)) rfl rfl (fun w' hS => val_subi rfl rfl (by omega) (by omega)) ?_
    refine yS (by kernel_rfl : opAt F60.o3 6 = some (some 14, .binOp .sub 3 (.tmp 8) (.tmp 13) 3, none)) rfl rfl (fun w' hS => val_subi rfl rfl (by omega) (by omega)) ?_
    rw [show (k : Int) - (((0 : Nat) : Int) - ((0 : Nat) : Int)) = (k : Int) from by simp]
    refine yS (by kernel_rfl : opAt F60.o3 7 = some (some 1, .assign (.tmp 14), none)) rfl rfl (fun w' hS => val_assign rfl) ?_
    refine Sch.nil ?_
    refine run_seq (x := F60.c12) (y := F60.c13) (by kernel_rfl) ?_
    refine run_plain (id := 4) (ops := F60.o4) [(0, true), (1, true)] (by kernel_rfl) (by kernel_rfl) ?_
    refine yS (by kernel_rfl : opAt F60.o4 0 = some (some 15, .move (.tmp 1), none)) rfl rfl (fun w' hS => val_move rfl) ?_
    refine yS (by kernel_rfl : opAt F60.o4 1 = some (some 16, .binOp .gtr 3 (.tmp 15) (.const (.int .i64 0)) 3, none)) rfl rfl (fun w' hS => val_gtr rfl rfl) ?_
    refine Sch.nil ?_
    refine run_if (x := F60.c14) (y := F60.c15) (o := .tmp 16) (by kernel_rfl) rfl (fun h16 => ?_) (fun h16 => ?_)
    · skip
      have hk0 : 0 < k := by omega
      refine run_plain (id := 5) (ops := F60.o5) [(0, true), (1, true), (2, false), (3, true), (4, true), (5, false), (6, true), (7, true), (8, true), (9, true)] (by kernel_rfl) (by kernel_rfl) ?_
      refine yS (by kernel_rfl : opAt F60.o5 0 = some (some 17, .move (.tmp 0), none)) rfl rfl (fun w' hS => val_move rfl) ?_
      refine yS (by kernel_rfl : opAt F60.o5 1 = some (some 18, .move (.tmp 0), none)) rfl rfl (fun w' hS => val_move rfl) ?_
      refine nS (by kernel_rfl : opAt F60.o5 2 = some (some 19, .call { callee := .builtin .cap, args := #[(.tmp 18)], argTypes := #[22] }, none)) rfl rfl trivial (val_cap_slice rfl Try.underlying22) ?_
      refine yS (by kernel_rfl : opAt F60.o5 3 = some (some 20, .slice 22 (.tmp 17) none (some (.tmp 19)) none, none)) rfl rfl (fun w' hS => val_sliceNil rfl rfl Try.underlying22 (by kernel_rfl)) ?_
      refine yS (by kernel_rfl : opAt F60.o5 4 = some (some 21, .move (.tmp 1), none)) rfl rfl (fun w' hS => val_move rfl) ?_
      refine aS (by kernel_rfl : opAt F60.o5 5 = some (some 22, .call { callee := .builtin .append, args := #[(.tmp 20), (.tmp 21)], argTypes := #[22, 3] }, none)) rfl rfl (a_appendZ (e := 3) (n := k) (j := 3) hF (by decide) rfl rfl (by kernel_rfl) (by kernel_rfl) Try.underlying3 hk0 (by omega)) ?_
      rintro v22 w1 ⟨Cw1, hs, hz, hF⟩
      refine ⟨trivial, ?_⟩
      replace hT := hT.trans hs (by simp)
      have hrl : (List.replicate k (0 : Int)).length = k := List.length_replicate
      refine yS (by kernel_rfl : opAt F60.o5 6 = some (some 23, .move (.tmp 0), none)) rfl rfl (fun w' hS => val_move rfl) ?_
      refine yS (by kernel_rfl : opAt F60.o5 7 = some (some 24, .call { callee := .builtin .len, args := #[(.tmp 23)], argTypes := #[22] }, none)) rfl rfl (fun w' hS => val_len_slice rfl Try.underlying22) ?_
      refine sTO (e' := 3) (by kernel_rfl : opAt F60.o5 8 = some (some 25, .slice 22 (.tmp 22) none (some (.tmp 24)) none, none)) rfl rfl hz rfl (by kernel_rfl) rfl (by omega) (by omega) (by omega) ?_
      intro v25 h25
      try simp only [Int.toNat_natCast] at h25
      simp only [show (((0 : Nat) : Int)).toNat = 0 from rfl, List.take_zero] at h25
      refine yS (by kernel_rfl : opAt F60.o5 9 = some (some 0, .assign (.tmp 25), none)) rfl rfl (fun w' hS => val_assign rfl) ?_
      refine Sch.nil ?_
      refine run_seq (x := F60.c17) (y := F60.c18) (by kernel_rfl) ?_
      refine run_plain (id := 6) (ops := F60.o6) [(0, true), (1, true)] (by kernel_rfl) (by kernel_rfl) ?_
      refine yS (by kernel_rfl : opAt F60.o6 0 = some (some 26, .move (.tmp 0), none)) rfl rfl (fun w' hS => val_move rfl) ?_
      refine yS (by kernel_rfl : opAt F60.o6 1 = some (some 4, .assign (.tmp 26), none)) rfl rfl (fun w' hS => val_assign rfl) ?_
      refine Sch.nil ?_
      refine run_ret1 (by kernel_rfl) Try.func60 Try.results60 rfl ?_
      obtain ⟨Cg, hcg, hFg, hmg, hog⟩ := h25.give hT hF0 (Mc_col1 C) (fun b _ => col1_lt C (by decide) b) (by decide) j hj
      exact ⟨Cg, (hT.out1 (by decide)).give hcg, hFg, hog⟩
    · skip
      refine run_skip (by kernel_rfl) ?_
      refine run_seq (x := F60.c17) (y := F60.c18) (by kernel_rfl) ?_
      refine run_plain (id := 6) (ops := F60.o6) [(0, true), (1, true)] (by kernel_rfl) (by kernel_rfl) ?_
      refine yS (by kernel_rfl : opAt F60.o6 0 = some (some 26, .move (.tmp 0), none)) rfl rfl (fun w' hS => val_move rfl) ?_
      refine yS (by kernel_rfl : opAt F60.o6 1 = some (some 4, .assign (.tmp 26), none)) rfl rfl (fun w' hS => val_assign rfl) ?_
      refine Sch.nil ?_
      refine run_ret1 (by kernel_rfl) Try.func60 Try.results60 rfl ?_
      exact ⟨C, hT.out1 (by decide), hF0.st (hT.out1 (by decide)), OwnL.nil⟩
namespace F52
noncomputable def c0 : Code := bodyOf Try.f52
noncomputable def c1 : Code := cl c0
noncomputable def o0 : Array Oper := rops c1
noncomputable def c2 : Code := cr c0
noncomputable def c3 : Code := cl c2
noncomputable def o1 : Array Oper := rops c3
noncomputable def c4 : Code := cr c2
noncomputable def c5 : Code := cl c4
noncomputable def c6 : Code := cl c5
noncomputable def o2 : Array Oper := rops c6
noncomputable def c7 : Code := cr c5
noncomputable def c8 : Code := cl c7
noncomputable def c9 : Code := cl c8
noncomputable def c10 : Code := cl c9
noncomputable def o3 : Array Oper := rops c10
noncomputable def c11 : Code := cr c9
noncomputable def c12 : Code := cl c11
noncomputable def c13 : Code := cl c12
noncomputable def c14 : Code := cr c12
noncomputable def c15 : Code := cr c11
noncomputable def c16 : Code := cl c15
noncomputable def c17 : Code := cl c16
noncomputable def c18 : Code := cl c17
noncomputable def o4 : Array Oper := rops c18
noncomputable def c19 : Code := cr c17
noncomputable def c20 : Code := cl c19
noncomputable def o5 : Array Oper := rops c20
noncomputable def c21 : Code := cr c19
noncomputable def c22 : Code := cl c21
noncomputable def o6 : Array Oper := rops c22
noncomputable def c23 : Code := cr c21
noncomputable def c24 : Code := cl c23
noncomputable def o7 : Array Oper := rops c24
noncomputable def c25 : Code := cr c23
noncomputable def c26 : Code := cr c15
noncomputable def o8 : Array Oper := rops c26
noncomputable def c27 : Code := cr c4
noncomputable def c28 : Code := cl c27
noncomputable def o9 : Array Oper := rops c28
noncomputable def c29 : Code := cr c27
noncomputable def c30 : Code := cl c29
noncomputable def c31 : Code := cl c30
noncomputable def o10 : Array Oper := rops c31
noncomputable def c32 : Code := cr c30
noncomputable def c33 : Code := cl c32
noncomputable def c34 : Code := cl c33
noncomputable def c35 : Code := cl c34
noncomputable def o11 : Array Oper := rops c35
noncomputable def c36 : Code := cr c34
noncomputable def c37 : Code := cl c36
noncomputable def c38 : Code := cl c37
noncomputable def c39 : Code := cr c37
noncomputable def c40 : Code := cr c36
noncomputable def c41 : Code := cl c40
noncomputable def c42 : Code := cl c41
noncomputable def c43 : Code := cl c42
noncomputable def o12 : Array Oper := rops c43
noncomputable def c44 : Code := cr c42
noncomputable def o13 : Array Oper := rops c44
noncomputable def c45 : Code := cr c40
noncomputable def o14 : Array Oper := rops c45
noncomputable def c46 : Code := cr c29
noncomputable def c47 : Code := cl c46
noncomputable def o15 : Array Oper := rops c47
noncomputable def c48 : Code := cr c46
end F52
/-- 'slices.Concat'. -/
theorem concat_ok {w₀ : World} {C : Nat → Nat} {ll : List (List Int)} {vv : Value} (hF : Lim w₀ C) (hl : RV w₀ (Mc C) ll vv) (hlen : ll.flatten.length ≤ 100000) : Calls Try.prog 52 #[vv] w₀ (Ret fun v w' => Stp [] w₀ C w' C ∧ RV w' (Mc C) ll.flatten v) := by
  have hF0 := hF
  have hT := Stp.refl [2, 3, 4, 5, 6, 7, 8, 9] w₀ (col1 C)
  replace hF := hF.col1
  replace hl : RV w₀ (Mc (col1 C)) ll vv := by rw [Mc_col1]; exact hl
  refine calls_start (c := F52.c0) (N := 36) [vv] Try.func52 (by kernel_rfl) (by kernel_rfl) (by kernel_rfl) ?_
  show Run _ _ _ _ [(0, vv)] _ _
  refine run_seq (x := F52.c1) (y := F52.c2) (by kernel_rfl) ?_
  refine run_plain (id := 0) (ops := F52.o0) [(0, true)] (by kernel_rfl) (by kernel_rfl) ?_
  refine yS (by kernel_rfl : opAt F52.o0 0 = some (some 2, .assign (.const (.slice none 0 0)), none)) rfl rfl (fun w' hS => val_assign rfl) ?_
  refine Sch.nil ?_
  refine run_seq (x := F52.c3) (y := F52.c4) (by kernel_rfl) ?_
  refine run_plain (id := 1) (ops := F52.o1) [(0, true)] (by kernel_rfl) (by kernel_rfl) ?_
  refine yS (by kernel_rfl : opAt F52.o1 0 = some (some 3, .assign (.const (.int .i64 0)), none)) rfl rfl (fun w' hS => val_assign rfl) ?_
  refine Sch.nil ?_
  refine run_seq (x := F52.c5) (y := F52.c27) (by kernel_rfl) ?_
  refine run_seq (x := F52.c6) (y := F52.c7) (by kernel_rfl) ?_
  refine run_plain (id := 2) (ops := F52.o2) [(0, true), (1, true), (2, true)] (by kernel_rfl) (by kernel_rfl) ?_
  refine yS (by kernel_rfl : opAt F52.o2 0 = some (some 9, .move (.tmp 0), none)) rfl rfl (fun w' hS => val_move rfl) ?_
  refine yS (by kernel_rfl : opAt F52.o2 1 = some (some 10, .call { callee := .builtin .len, args := #[(.tmp 9)], argTypes := #[70] }, none)) rfl rfl (fun w' hS => hl.lenV rfl Try.underlying70 w' ) ?_
  refine yS (by kernel_rfl : opAt F52.o2 2 = some (some 11, .move (.const (.int .i64 0)), none)) rfl rfl (fun w' hS => val_move rfl) ?_
  refine Sch.nil ?_
  refine run_block (x := F52.c8) (id := 0) (by kernel_rfl) ?_
  
  refine run_loop (ι := Nat × (Nat → Nat)) (I := fun x w => x.1 ≤ ll.length ∧ Lim w x.2 ∧ Stp [2, 3, 4, 5, 6, 7, 8, 9] w₀ (col1 C) w x.2 ∧ RV w (Mc x.2) ll vv) (e := fun x => [(0, vv), (3, .int .i64 ((ll.take x.1).flatten.length : Nat)), (9, vv), (10, .int .i64 ll.length), (11, .int .i64 x.1)]) (m := fun x => ll.length - x.1) (x₀ := (0, col1 C)) (body := F52.c9) (by kernel_rfl) (sub_cons 0 rfl rfl (sub_cons 3 rfl rfl (sub_cons 9 rfl rfl (sub_cons 10 rfl rfl (sub_cons 11 rfl rfl (sub_nil _)))))) ?_ ?_
  · exact ⟨Nat.zero_le _, hF, hT, hl⟩
  intro ⟨i, C1⟩ w1 hI next
  obtain ⟨hi, hF, hT, hl⟩ := hI
  try simp only at hi hF hT hl
  have next1 := next
  clear next
  show Run _ _ _ _ [(0, vv), (3, .int .i64 ((ll.take i).flatten.length : Nat)), (9, vv), (10, .int .i64 ll.length), (11, .int .i64 i)] _ _
  have hle := hl.le
  have hfl := flat_le (ll := ll) i
  refine run_seq (x := F52.c10) (y := F52.c11) (by kernel_rfl) ?_
  refine run_plain (id := 3) (ops := F52.o3) [(0, true)] (by kernel_rfl) (by kernel_rfl) ?_
  refine yS (by kernel_rfl : opAt F52.o3 0 = some (some 12, .binOp .lss 3 (.tmp 11) (.tmp 10) 3, none)) rfl rfl (fun w' hS => val_lss rfl rfl) ?_
  refine Sch.nil ?_
  refine run_seq (x := F52.c12) (y := F52.c15) (by kernel_rfl) ?_
  refine run_if (x := F52.c13) (y := F52.c14) (o := .tmp 12) (by kernel_rfl) rfl (fun h12 => ?_) (fun h12 => ?_)
  · skip
    have hil : i < ll.length := by omega
    have hft := congrArg List.length (flat_take hil)
    rw [List.length_append] at hft
    have hfl2 := flat_le (ll := ll) (i + 1)
    refine run_skip (by kernel_rfl) ?_
    refine run_seq (x := F52.c16) (y := F52.c26) (by kernel_rfl) ?_
    refine run_block (x := F52.c17) (id := 1) (by kernel_rfl) ?_
    refine run_seq (x := F52.c18) (y := F52.c19) (by kernel_rfl) ?_
    refine run_plain (id := 4) (ops := F52.o4) [(0, true), (1, false), (2, true)] (by kernel_rfl) (by kernel_rfl) ?_
    refine iS (e := 22) (by kernel_rfl : opAt F52.o4 0 = some (some 13, .indexAddr 70 (.tmp 9) (.tmp 11), none)) rfl rfl hl rfl (by kernel_rfl) rfl (by omega) (by omega) ?_
    intro b13 o13 h13
    try simp only [Int.toNat_natCast] at h13
    refine lN (by kernel_rfl : opAt F52.o4 1 = some (some 14, .load 22 (.tmp 13), none)) rfl rfl trivial h13 (by kernel_rfl) rfl rfl ?_
    intro v14 g14
    refine yS (by kernel_rfl : opAt F52.o4 2 = some (some 5, .assign (.tmp 14), none)) rfl rfl (fun w' hS => val_assign rfl) ?_
    refine Sch.nil ?_
    refine run_seq (x := F52.c20) (y := F52.c21) (by kernel_rfl) ?_
    refine run_plain (id := 5) (ops := F52.o5) [(0, true), (1, true), (2, true), (3, true), (4, true)] (by kernel_rfl) (by kernel_rfl) ?_
    refine yS (by kernel_rfl : opAt F52.o5 0 = some (some 15, .move (.tmp 3), none)) rfl rfl (fun w' hS => val_move rfl) ?_
    refine yS (by kernel_rfl : opAt F52.o5 1 = some (some 16, .move (.tmp 5), none)) rfl rfl (fun w' hS => val_move rfl) ?_
    refine yS (by kernel_rfl : opAt F52.o5 2 = some (some 17, .call { callee := .builtin .len, args := #[(.tmp 16)], argTypes := #[22] }, none)) rfl rfl (fun w' hS => g14.lenV rfl Try.underlying22 w' ) ?_
    refine yS (by kernel_rfl : opAt F52.o5 3 = some (some 18, .binOp .add 3 (.tmp 15) (.tmp 17) 3, none)) rfl rfl (fun w' hS => val_addi rfl rfl (by omega) (by omega)) ?_
    refine yS (by kernel_rfl : opAt F52.o5 4 = some (some 3, .assign (.tmp 18), none)) rfl rfl (fun w' hS => val_assign rfl) ?_
    refine Sch.nil ?_
    refine run_seq (x := F52.c22) (y := F52.c23) (by kernel_rfl) ?_
    refine run_plain (id := 6) (ops := F52.o6) [(0, true), (1, true)] (by kernel_rfl) (by kernel_rfl) ?_
    refine yS (by kernel_rfl : opAt F52.o6 0 = some (some 19, .move (.tmp 3), none)) rfl rfl (fun w' hS => val_move rfl) ?_
    refine yS (by kernel_rfl : opAt F52.o6 1 = some (some 20, .binOp .lss 3 (.tmp 19) (.const (.int .i64 0)) 3, none)) rfl rfl (fun w' hS => val_lss rfl rfl) ?_
    refine Sch.nil ?_
    refine run_if (x := F52.c24) (y := F52.c25) (o := .tmp 20) (by kernel_rfl) rfl (fun h20 => ?_) (fun h20 => ?_)
    · skip
      omega
    · skip
      refine run_skip (by kernel_rfl) ?_
      refine run_inBlock ?_
      refine run_plain (id := 8) (ops := F52.o8) [(0, true), (1, true)] (by kernel_rfl) (by kernel_rfl) ?_
      refine yS (by kernel_rfl : opAt F52.o8 0 = some (some 22, .binOp .add 3 (.tmp 11) (.const (.int .i64 1)) 3, none)) rfl rfl (fun w' hS => val_addi rfl rfl (by omega) (by omega)) ?_
      refine yS (by kernel_rfl : opAt F52.o8 1 = some (some 11, .move (.tmp 22), none)) rfl rfl (fun w' hS => val_move rfl) ?_
      refine Sch.nil ?_
      refine kp (sub_cons 0 rfl rfl (sub_cons 3 rfl (eq_int (by simp only; omega)) (sub_cons 9 rfl rfl (sub_cons 10 rfl rfl (sub_cons 11 rfl (eq_int (by simp)) (sub_nil _)))))) (next1 (i + 1, C1) _ ⟨(by first | omega | (simp only; omega)), hF, hT, hl⟩ (by first | omega | (simp only; omega)))
  · skip
    have hil : i = ll.length := by omega
    refine run_exit (id := 0) (by kernel_rfl) rfl ?_
    refine run_seq (x := F52.c28) (y := F52.c29) (by kernel_rfl) ?_
    refine run_plain (id := 9) (ops := F52.o9) [(0, true), (1, false), (2, true)] (by kernel_rfl) (by kernel_rfl) ?_
    refine yS (by kernel_rfl : opAt F52.o9 0 = some (some 23, .move (.tmp 3), none)) rfl rfl (fun w' hS => val_move rfl) ?_
    refine cS (by kernel_rfl : opAt F52.o9 1 = some (some 24, .call { callee := .value (.func 60), args := #[(.const (.slice none 0 0)), (.tmp 23)], argTypes := #[22, 3] }, none)) rfl rfl (ent Try.call60 rfl) (grow_ok hF (by omega) 3 (by decide)) ?_
    rintro vg w2 ⟨Cb, hs, hF, ho⟩
    refine ⟨trivial, ?_⟩
    replace hT := hT.trans hs (by simp)
    replace hl := hl.st hs (by first | decide | (simp <;> omega))
    refine yS (by kernel_rfl : opAt F52.o9 2 = some (some 6, .assign (.tmp 24), none)) rfl rfl (fun w' hS => val_assign rfl) ?_
    refine Sch.nil ?_
    refine run_seq (x := F52.c30) (y := F52.c46) (by kernel_rfl) ?_
    refine run_seq (x := F52.c31) (y := F52.c32) (by kernel_rfl) ?_
    refine run_plain (id := 10) (ops := F52.o10) [(0, true), (1, true), (2, true)] (by kernel_rfl) (by kernel_rfl) ?_
    refine yS (by kernel_rfl : opAt F52.o10 0 = some (some 25, .move (.tmp 0), none)) rfl rfl (fun w' hS => val_move rfl) ?_
    refine yS (by kernel_rfl : opAt F52.o10 1 = some (some 26, .call { callee := .builtin .len, args := #[(.tmp 25)], argTypes := #[70] }, none)) rfl rfl (fun w' hS => hl.lenV rfl Try.underlying70 w' ) ?_
    refine yS (by kernel_rfl : opAt F52.o10 2 = some (some 27, .move (.const (.int .i64 0)), none)) rfl rfl (fun w' hS => val_move rfl) ?_
    refine Sch.nil ?_
    refine run_block (x := F52.c33) (id := 2) (by kernel_rfl) ?_
    
    refine run_loop (ι := Nat × Value × (Nat → Nat)) (I := fun x w => x.1 ≤ ll.length ∧ Lim w x.2.2 ∧ Stp [2, 3, 4, 5, 6, 7, 8, 9] w₀ (col1 C) w x.2.2 ∧ RV w (Mc x.2.2) ll vv ∧ OwnL w x.2.2 3 3 x.2.1 ((ll.take x.1).flatten)) (e := fun x => [(6, x.2.1), (25, vv), (26, .int .i64 ll.length), (27, .int .i64 x.1)]) (m := fun x => ll.length - x.1) (x₀ := (0, vg, Cb)) (body := F52.c34) (by kernel_rfl) (sub_cons 6 rfl rfl (sub_cons 25 rfl rfl (sub_cons 26 rfl rfl (sub_cons 27 rfl rfl (sub_nil _))))) ?_ ?_
    · exact ⟨Nat.zero_le _, hF, hT, hl, ho⟩
    intro ⟨k, vo, C2⟩ w3 hI next
    obtain ⟨hk, hF, hT, hl, ho⟩ := hI
    try simp only at hk hF hT hl ho
    have next2 := next
    clear next
    show Run _ _ _ _ [(6, vo), (25, vv), (26, .int .i64 ll.length), (27, .int .i64 k)] _ _
    have hle := hl.le
    have hfl := flat_le (ll := ll) k
    refine run_seq (x := F52.c35) (y := F52.c36) (by kernel_rfl) ?_
    refine run_plain (id := 11) (ops := F52.o11) [(0, true)] (by kernel_rfl) (by kernel_rfl) ?_
    refine yS (by kernel_rfl : opAt F52.o11 0 = some (some 28, .binOp .lss 3 (.tmp 27) (.tmp 26) 3, none)) rfl rfl (fun w' hS => val_lss rfl rfl) ?_
    refine Sch.nil ?_
    refine run_seq (x := F52.c37) (y := F52.c40) (by kernel_rfl) ?_
    refine run_if (x := F52.c38) (y := F52.c39) (o := .tmp 28) (by kernel_rfl) rfl (fun h28 => ?_) (fun h28 => ?_)
    · skip
      have hkl : k < ll.length := by omega
      have hft := flat_take hkl
      have hft2 := congrArg List.length hft
      rw [List.length_append] at hft2
      have hfl2 := flat_le (ll := ll) (k + 1)
      refine run_skip (by kernel_rfl) ?_
      refine run_seq (x := F52.c41) (y := F52.c45) (by kernel_rfl) ?_
      refine run_block (x := F52.c42) (id := 3) (by kernel_rfl) ?_
      refine run_seq (x := F52.c43) (y := F52.c44) (by kernel_rfl) ?_
      refine run_plain (id := 12) (ops := F52.o12) [(0, true), (1, false), (2, true)] (by kernel_rfl) (by kernel_rfl) ?_
      refine iS (e := 22) (by kernel_rfl : opAt F52.o12 0 = some (some 29, .indexAddr 70 (.tmp 25) (.tmp 27), none)) rfl rfl hl rfl (by kernel_rfl) rfl (by omega) (by omega) ?_
      intro b29 o29 h29
      try simp only [Int.toNat_natCast] at h29
      refine lN (by kernel_rfl : opAt F52.o12 1 = some (some 30, .load 22 (.tmp 29), none)) rfl rfl trivial h29 (by kernel_rfl) rfl rfl ?_
      intro v30 g30
      refine yS (by kernel_rfl : opAt F52.o12 2 = some (some 8, .assign (.tmp 30), none)) rfl rfl (fun w' hS => val_assign rfl) ?_
      refine Sch.nil ?_
      refine run_plain (id := 13) (ops := F52.o13) [(0, true), (1, true), (2, false), (3, true)] (by kernel_rfl) (by kernel_rfl) ?_
      refine yS (by kernel_rfl : opAt F52.o13 0 = some (some 31, .move (.tmp 6), none)) rfl rfl (fun w' hS => val_move rfl) ?_
      refine yS (by kernel_rfl : opAt F52.o13 1 = some (some 32, .move (.tmp 8), none)) rfl rfl (fun w' hS => val_move rfl) ?_
      refine aS (by kernel_rfl : opAt F52.o13 2 = some (some 33, .call { callee := .builtin .append, args := #[(.tmp 31), (.tmp 32)], argTypes := #[22, 22] }, none)) rfl rfl (a_append (e := 3) (bytes := 8) hF (by decide) rfl rfl (by kernel_rfl) (by decide) ho g30 (by omega) (by omega)) ?_
      rintro v33 w4 ⟨Cw4, hs, ho, hF⟩
      refine ⟨trivial, ?_⟩
      replace hT := hT.trans hs (by simp)
      replace hl := hl.st hs (by first | decide | (simp <;> omega))
      replace h29 := h29.st hs (by first | decide | (simp <;> omega))
      replace g30 := g30.st hs (by first | decide | (simp <;> omega))
      refine yS (by kernel_rfl : opAt F52.o13 3 = some (some 6, .assign (.tmp 33), none)) rfl rfl (fun w' hS => val_assign rfl) ?_
      refine Sch.nil ?_
      refine run_inBlock ?_
      refine run_plain (id := 14) (ops := F52.o14) [(0, true), (1, true)] (by kernel_rfl) (by kernel_rfl) ?_
      refine yS (by kernel_rfl : opAt F52.o14 0 = some (some 34, .binOp .add 3 (.tmp 27) (.const (.int .i64 1)) 3, none)) rfl rfl (fun w' hS => val_addi rfl rfl (by omega) (by omega)) ?_
      refine yS (by kernel_rfl : opAt F52.o14 1 = some (some 27, .move (.tmp 34), none)) rfl rfl (fun w' hS => val_move rfl) ?_
      refine Sch.nil ?_
      refine kp (sub_cons 6 rfl rfl (sub_cons 25 rfl rfl (sub_cons 26 rfl rfl (sub_cons 27 rfl (eq_int (by simp)) (sub_nil _))))) (next2 (k + 1, v33, Cw4) _ ⟨(by first | omega | (simp only; omega)), hF, hT, hl, (by simp only; rw [hft]; exact ho)⟩ (by first | omega | (simp only; omega)))
    · skip
      have hkl : k = ll.length := by omega
      rw [hkl, List.take_length] at ho
      refine run_exit (id := 2) (by kernel_rfl) rfl ?_
      refine run_seq (x := F52.c47) (y := F52.c48) (by kernel_rfl) ?_
      refine run_plain (id := 15) (ops := F52.o15) [(0, true), (1, true)] (by kernel_rfl) (by kernel_rfl) ?_
      refine yS (by kernel_rfl : opAt F52.o15 0 = some (some 35, .move (.tmp 6), none)) rfl rfl (fun w' hS => val_move rfl) ?_
      refine yS (by kernel_rfl : opAt F52.o15 1 = some (some 2, .assign (.tmp 35), none)) rfl rfl (fun w' hS => val_assign rfl) ?_
      refine Sch.nil ?_
      refine run_ret1 (by kernel_rfl) Try.func52 Try.results52 rfl ?_
      exact ⟨hT.out1 (by decide), ho.out hT hF0 (Mc_col1 C) (fun b _ => col1_lt C (by decide) b) (by omega)⟩
end Go.Proofs.Ytgooehopkmbkfaa
