/- Steps through functions of the program. -/
import Derived.Test.YtejbklahkkjmhaaJR4
import Derived.Test.YtejbklahkkjmhaaJPE
import Derived.Test.YtejbklahkkjmhaaJD2
import Derived.Test.YtejbklahkkjmhaaJD3
set_option linter.unusedVariables false
set_option linter.unusedSimpArgs false
set_option maxRecDepth 100000
set_option maxHeartbeats 4000000
namespace Go.Proofs.Ytejbklahkkjmhaa
open Go.K Go.K.Rep

namespace F19
noncomputable def c0 : Code := bodyOf Try.f19
noncomputable def c1 : Code := cl c0
noncomputable def o0 : Array Oper := rops c1
noncomputable def c2 : Code := cr c0
noncomputable def c3 : Code := cl c2
noncomputable def o1 : Array Oper := rops c3
noncomputable def c4 : Code := cr c2
noncomputable def c5 : Code := cl c4
noncomputable def c6 : Code := cl c5
noncomputable def o2 : Array Oper := rops c6
noncomputable def c7 : Code := cr c5
noncomputable def c8 : Code := cl c7
noncomputable def c9 : Code := cl c8
noncomputable def c10 : Code := cl c9
noncomputable def o3 : Array Oper := rops c10
noncomputable def c11 : Code := cr c9
noncomputable def c12 : Code := cl c11
noncomputable def c13 : Code := cl c12
noncomputable def c14 : Code := cr c12
noncomputable def c15 : Code := cr c11
noncomputable def c16 : Code := cl c15
noncomputable def c17 : Code := cl c16
noncomputable def c18 : Code := cl c17
noncomputable def o4 : Array Oper := rops c18
noncomputable def c19 : Code := cr c17
noncomputable def c20 : Code := cl c19
noncomputable def o5 : Array Oper := rops c20
noncomputable def c21 : Code := cr c19
noncomputable def c22 : Code := cl c21
noncomputable def c23 : Code := cl c22
noncomputable def o6 : Array Oper := rops c23
noncomputable def c24 : Code := cr c22
noncomputable def c25 : Code := cl c24
noncomputable def c26 : Code := cl c25
noncomputable def c27 : Code := cl c26
noncomputable def o7 : Array Oper := rops c27
noncomputable def c28 : Code := cr c26
noncomputable def c29 : Code := cl c28
noncomputable def c30 : Code := cl c29
noncomputable def c31 : Code := cr c29
noncomputable def c32 : Code := cr c28
noncomputable def c33 : Code := cl c32
noncomputable def c34 : Code := cl c33
noncomputable def c35 : Code := cl c34
noncomputable def o8 : Array Oper := rops c35
noncomputable def c36 : Code := cr c34
noncomputable def o9 : Array Oper := rops c36
noncomputable def c37 : Code := cr c32
noncomputable def o10 : Array Oper := rops c37
noncomputable def c38 : Code := cr c21
noncomputable def c39 : Code := cl c38
noncomputable def o11 : Array Oper := rops c39
noncomputable def c40 : Code := cr c38
noncomputable def c41 : Code := cl c40
noncomputable def c42 : Code := cl c41
noncomputable def o12 : Array Oper := rops c42
noncomputable def c43 : Code := cr c41
noncomputable def c44 : Code := cr c40
noncomputable def c45 : Code := cr c15
noncomputable def o13 : Array Oper := rops c45
noncomputable def c46 : Code := cr c4
noncomputable def c47 : Code := cl c46
noncomputable def o14 : Array Oper := rops c47
noncomputable def c48 : Code := cr c46
end F19
/-- 'small'. -/
theorem small_ok {w₀ : World} {M : Nat → Prop} {l : List (List Block)} {vl : Value} (hl : RV w₀ M l vl) (hq : ∀ r ∈ l, r.length ≤ 4398046511104) : Calls Try.prog 19 #[vl] w₀ (Ret fun v w' => v = .bool (decide (smallP l)) ∧ w' = w₀) := by
  refine calls_start (c := F19.c0) (N := 45) [vl] Try.func19 (by kernel_rfl) (by kernel_rfl) (by kernel_rfl) ?_
  show Run _ _ _ _ [(0, vl)] _ _
  refine run_seq (x := F19.c1) (y := F19.c2) (by kernel_rfl) ?_
  refine run_plain (id := 0) (ops := F19.o0) [(0, true)] (by kernel_rfl) (by kernel_rfl) ?_
  refine yS (by kernel_rfl : opAt F19.o0 0 = some (some 2, .assign (.const (.bool false)), none)) rfl rfl (fun w' hS => val_assign rfl) ?_
  refine Sch.nil ?_
  refine run_seq (x := F19.c3) (y := F19.c4) (by kernel_rfl) ?_
  refine run_plain (id := 1) (ops := F19.o1) [(0, true)] (by kernel_rfl) (by kernel_rfl) ?_
  refine yS (by kernel_rfl : opAt F19.o1 0 = some (some 3, .assign (.const (.int .i64 0)), none)) rfl rfl (fun w' hS => val_assign rfl) ?_
  refine Sch.nil ?_
  refine run_seq (x := F19.c5) (y := F19.c46) (by kernel_rfl) ?_
  refine run_seq (x := F19.c6) (y := F19.c7) (by kernel_rfl) ?_
  refine run_plain (id := 2) (ops := F19.o2) [(0, true), (1, true), (2, true)] (by kernel_rfl) (by kernel_rfl) ?_
  refine yS (by kernel_rfl : opAt F19.o2 0 = some (some 6, .move (.tmp 0), none)) rfl rfl (fun w' hS => val_move rfl) ?_
  refine yS (by kernel_rfl : opAt F19.o2 1 = some (some 7, .call { callee := .builtin .len, args := #[(.tmp 6)], argTypes := #[28] }, none)) rfl rfl (fun w' hS => hl.lenV rfl Try.underlying28 w' ) ?_
  refine yS (by kernel_rfl : opAt F19.o2 2 = some (some 8, .move (.const (.int .i64 0)), none)) rfl rfl (fun w' hS => val_move rfl) ?_
  refine Sch.nil ?_
  refine run_block (x := F19.c8) (id := 0) (by kernel_rfl) ?_
  
  refine run_loop (ι := Nat) (I := fun x w => x ≤ l.length ∧ sizeW (l.take x) ≤ 300 ∧ w = w₀) (e := fun x => [(0, vl), (3, .int .i64 (sizeW (l.take x) : Nat)), (7, .int .i64 l.length), (8, .int .i64 x)]) (m := fun x => l.length - x) (x₀ := 0) (body := F19.c9) (by kernel_rfl) (sub_cons 0 rfl rfl (sub_cons 3 rfl rfl (sub_cons 7 rfl rfl (sub_cons 8 rfl rfl (sub_nil _))))) ?_ ?_
  · exact ⟨Nat.zero_le _, (by simp [sizeW]), rfl⟩
  intro i w1 hI next
  obtain ⟨hi, hs, rfl⟩ := hI
  try simp only at hi hs
  have next1 := next
  clear next
  show Run _ _ _ _ [(0, vl), (3, .int .i64 (sizeW (l.take i) : Nat)), (7, .int .i64 l.length), (8, .int .i64 i)] _ _
  have hle := hl.le
  refine run_seq (x := F19.c10) (y := F19.c11) (by kernel_rfl) ?_
  refine run_plain (id := 3) (ops := F19.o3) [(0, true)] (by kernel_rfl) (by kernel_rfl) ?_
  refine yS (by kernel_rfl : opAt F19.o3 0 = some (some 9, .binOp .lss 3 (.tmp 8) (.tmp 7) 3, none)) rfl rfl (fun w' hS => val_lss rfl rfl) ?_
  refine Sch.nil ?_
  refine run_seq (x := F19.c12) (y := F19.c15) (by kernel_rfl) ?_
  refine run_if (x := F19.c13) (y := F19.c14) (o := .tmp 9) (by kernel_rfl) rfl (fun h9 => ?_) (fun h9 => ?_)
  · skip
    have hil : i < l.length := by omega
    have hrl := hq _ (List.getElem_mem hil)
    have hst := sizeW_take hil
    refine run_skip (by kernel_rfl) ?_
    refine run_seq (x := F19.c16) (y := F19.c45) (by kernel_rfl) ?_
    refine run_block (x := F19.c17) (id := 1) (by kernel_rfl) ?_
    refine run_seq (x := F19.c18) (y := F19.c19) (by kernel_rfl) ?_
    refine run_plain (id := 4) (ops := F19.o4) [(0, true), (1, true)] (by kernel_rfl) (by kernel_rfl) ?_
    refine yS (by kernel_rfl : opAt F19.o4 0 = some (some 10, .move (.tmp 8), none)) rfl rfl (fun w' hS => val_move rfl) ?_
    refine yS (by kernel_rfl : opAt F19.o4 1 = some (some 4, .assign (.tmp 10), none)) rfl rfl (fun w' hS => val_assign rfl) ?_
    refine Sch.nil ?_
    refine run_seq (x := F19.c20) (y := F19.c21) (by kernel_rfl) ?_
    refine run_plain (id := 5) (ops := F19.o5) [(0, true), (1, true), (2, true), (3, true), (4, false), (5, true), (6, true), (7, true)] (by kernel_rfl) (by kernel_rfl) ?_
    refine yS (by kernel_rfl : opAt F19.o5 0 = some (some 11, .move (.tmp 3), none)) rfl rfl (fun w' hS => val_move rfl) ?_
    refine yS (by kernel_rfl : opAt F19.o5 1 = some (some 12, .move (.tmp 0), none)) rfl rfl (fun w' hS => val_move rfl) ?_
    refine yS (by kernel_rfl : opAt F19.o5 2 = some (some 13, .move (.tmp 4), none)) rfl rfl (fun w' hS => val_move rfl) ?_
    refine iS (e := 39) (by kernel_rfl : opAt F19.o5 3 = some (some 14, .indexAddr 28 (.tmp 12) (.tmp 13), none)) rfl rfl hl rfl (by kernel_rfl) rfl (by omega) (by omega) ?_
    intro b14 o14 h14
    try simp only [Int.toNat_natCast] at h14
    refine lN (by kernel_rfl : opAt F19.o5 4 = some (some 15, .load 39 (.tmp 14), none)) rfl rfl trivial h14 (by kernel_rfl) rfl rfl ?_
    intro v15 g15
    refine yS (by kernel_rfl : opAt F19.o5 5 = some (some 16, .call { callee := .builtin .len, args := #[(.tmp 15)], argTypes := #[39] }, none)) rfl rfl (fun w' hS => g15.lenV rfl Try.underlying39 w' ) ?_
    refine yS (by kernel_rfl : opAt F19.o5 6 = some (some 17, .binOp .add 3 (.tmp 11) (.tmp 16) 3, none)) rfl rfl (fun w' hS => val_addi rfl rfl (by omega) (by omega)) ?_
    refine yS (by kernel_rfl : opAt F19.o5 7 = some (some 3, .assign (.tmp 17), none)) rfl rfl (fun w' hS => val_assign rfl) ?_
    refine Sch.nil ?_
    refine run_seq (x := F19.c22) (y := F19.c38) (by kernel_rfl) ?_
    refine run_seq (x := F19.c23) (y := F19.c24) (by kernel_rfl) ?_
    refine run_plain (id := 6) (ops := F19.o6) [(0, true), (1, true), (2, true), (3, false), (4, true), (5, true)] (by kernel_rfl) (by kernel_rfl) ?_
    refine yS (by kernel_rfl : opAt F19.o6 0 = some (some 18, .move (.tmp 0), none)) rfl rfl (fun w' hS => val_move rfl) ?_
    refine yS (by kernel_rfl : opAt F19.o6 1 = some (some 19, .move (.tmp 4), none)) rfl rfl (fun w' hS => val_move rfl) ?_
    refine iS (e := 39) (by kernel_rfl : opAt F19.o6 2 = some (some 20, .indexAddr 28 (.tmp 18) (.tmp 19), none)) rfl rfl hl rfl (by kernel_rfl) rfl (by omega) (by omega) ?_
    intro b20 o20 h20
    try simp only [Int.toNat_natCast] at h20
    refine lN (by kernel_rfl : opAt F19.o6 3 = some (some 21, .load 39 (.tmp 20), none)) rfl rfl trivial h20 (by kernel_rfl) rfl rfl ?_
    intro v21 g21
    refine yS (by kernel_rfl : opAt F19.o6 4 = some (some 22, .call { callee := .builtin .len, args := #[(.tmp 21)], argTypes := #[39] }, none)) rfl rfl (fun w' hS => g21.lenV rfl Try.underlying39 w' ) ?_
    refine yS (by kernel_rfl : opAt F19.o6 5 = some (some 23, .move (.const (.int .i64 0)), none)) rfl rfl (fun w' hS => val_move rfl) ?_
    refine Sch.nil ?_
    refine run_block (x := F19.c25) (id := 2) (by kernel_rfl) ?_
    
    refine run_loop (ι := Nat) (I := fun x w => x ≤ l[i].length ∧ w = w1) (e := fun x => [(0, vl), (3, .int .i64 (sizeW (l.take i) + (l[i].length + minW (l[i].take x)) : Nat)), (4, .int .i64 i), (7, .int .i64 l.length), (8, .int .i64 i), (22, .int .i64 l[i].length), (23, .int .i64 x)]) (m := fun x => l[i].length - x) (x₀ := 0) (body := F19.c26) (by kernel_rfl) (sub_cons 0 rfl rfl (sub_cons 3 rfl (eq_int (by simp [minW])) (sub_cons 4 rfl rfl (sub_cons 7 rfl rfl (sub_cons 8 rfl rfl (sub_cons 22 rfl rfl (sub_cons 23 rfl rfl (sub_nil _)))))))) ?_ ?_
    · exact ⟨Nat.zero_le _, rfl⟩
    intro k w2 hI next
    obtain ⟨hk, rfl⟩ := hI
    try simp only at hk
    have next2 := next
    clear next
    show Run _ _ _ _ [(0, vl), (3, .int .i64 (sizeW (l.take i) + (l[i].length + minW (l[i].take k)) : Nat)), (4, .int .i64 i), (7, .int .i64 l.length), (8, .int .i64 i), (22, .int .i64 l[i].length), (23, .int .i64 k)] _ _
    have hml := minW_le (l[i].take k)
    have hmt := List.length_take_le k l[i]
    refine run_seq (x := F19.c27) (y := F19.c28) (by kernel_rfl) ?_
    refine run_plain (id := 7) (ops := F19.o7) [(0, true)] (by kernel_rfl) (by kernel_rfl) ?_
    refine yS (by kernel_rfl : opAt F19.o7 0 = some (some 24, .binOp .lss 3 (.tmp 23) (.tmp 22) 3, none)) rfl rfl (fun w' hS => val_lss rfl rfl) ?_
    refine Sch.nil ?_
    refine run_seq (x := F19.c29) (y := F19.c32) (by kernel_rfl) ?_
    refine run_if (x := F19.c30) (y := F19.c31) (o := .tmp 24) (by kernel_rfl) rfl (fun h24 => ?_) (fun h24 => ?_)
    · skip
      have hkl : k < l[i].length := by omega
      have hmk := minW_take hkl
      refine run_skip (by kernel_rfl) ?_
      refine run_seq (x := F19.c33) (y := F19.c37) (by kernel_rfl) ?_
      refine run_block (x := F19.c34) (id := 3) (by kernel_rfl) ?_
      refine run_seq (x := F19.c35) (y := F19.c36) (by kernel_rfl) ?_
      refine run_plain (id := 8) (ops := F19.o8) [(0, true), (1, true)] (by kernel_rfl) (by kernel_rfl) ?_
      refine yS (by kernel_rfl : opAt F19.o8 0 = some (some 25, .move (.tmp 23), none)) rfl rfl (fun w' hS => val_move rfl) ?_
      refine yS (by kernel_rfl : opAt F19.o8 1 = some (some 5, .assign (.tmp 25), none)) rfl rfl (fun w' hS => val_assign rfl) ?_
      refine Sch.nil ?_
      refine run_plain (id := 9) (ops := F19.o9) [(0, true), (1, true), (2, true), (3, true), (4, false), (5, true), (6, true), (7, true), (8, false), (9, true), (10, true), (11, true), (12, true)] (by kernel_rfl) (by kernel_rfl) ?_
      refine yS (by kernel_rfl : opAt F19.o9 0 = some (some 26, .move (.tmp 3), none)) rfl rfl (fun w' hS => val_move rfl) ?_
      refine yS (by kernel_rfl : opAt F19.o9 1 = some (some 27, .move (.tmp 0), none)) rfl rfl (fun w' hS => val_move rfl) ?_
      refine yS (by kernel_rfl : opAt F19.o9 2 = some (some 28, .move (.tmp 4), none)) rfl rfl (fun w' hS => val_move rfl) ?_
      refine iS (e := 39) (by kernel_rfl : opAt F19.o9 3 = some (some 29, .indexAddr 28 (.tmp 27) (.tmp 28), none)) rfl rfl hl rfl (by kernel_rfl) rfl (by omega) (by omega) ?_
      intro b29 o29 h29
      try simp only [Int.toNat_natCast] at h29
      refine lN (by kernel_rfl : opAt F19.o9 4 = some (some 30, .load 39 (.tmp 29), none)) rfl rfl trivial h29 (by kernel_rfl) rfl rfl ?_
      intro v30 g30
      refine yS (by kernel_rfl : opAt F19.o9 5 = some (some 31, .move (.tmp 5), none)) rfl rfl (fun w' hS => val_move rfl) ?_
      refine iS (e := 44) (by kernel_rfl : opAt F19.o9 6 = some (some 32, .indexAddr 39 (.tmp 30) (.tmp 31), none)) rfl rfl g30 rfl (by kernel_rfl) rfl (by omega) (by omega) ?_
      intro b32 o32 h32
      try simp only [Int.toNat_natCast] at h32
      have h33 := RA.ids h32
      refine yS (by kernel_rfl : opAt F19.o9 7 = some (some 33, .fieldAddr 44 (.tmp 32) 1, none)) rfl rfl (fun w' hS => val_fieldAddr (off := 1) (by kernel_rfl) rfl) ?_
      refine lN (by kernel_rfl : opAt F19.o9 8 = some (some 34, .load 22 (.tmp 33), none)) rfl rfl trivial h33 (by kernel_rfl) rfl rfl ?_
      intro v34 g34
      refine yS (by kernel_rfl : opAt F19.o9 9 = some (some 35, .call { callee := .builtin .len, args := #[(.tmp 34)], argTypes := #[22] }, none)) rfl rfl (fun w' hS => g34.lenV rfl Try.underlying22 w' ) ?_
      refine yS (by kernel_rfl : opAt F19.o9 10 = some (some 36, .call { callee := .builtin .min, args := #[(.tmp 35), (.const (.int .i64 1000))], argTypes := #[3, 3] }, none)) rfl rfl (fun w' hS => val_is (val_min rfl rfl Try.underlying3) (congrArg (Value.int .i64) (show min (((l[i][k]).ids.length : Nat) : Int) 1000 = ((min (l[i][k]).ids.length 1000 : Nat) : Int) from by omega))) ?_
      refine yS (by kernel_rfl : opAt F19.o9 11 = some (some 37, .binOp .add 3 (.tmp 26) (.tmp 36) 3, none)) rfl rfl (fun w' hS => val_addi rfl rfl (by omega) (by omega)) ?_
      refine yS (by kernel_rfl : opAt F19.o9 12 = some (some 3, .assign (.tmp 37), none)) rfl rfl (fun w' hS => val_assign rfl) ?_
      refine Sch.nil ?_
      refine run_inBlock ?_
      refine run_plain (id := 10) (ops := F19.o10) [(0, true), (1, true)] (by kernel_rfl) (by kernel_rfl) ?_
      refine yS (by kernel_rfl : opAt F19.o10 0 = some (some 38, .binOp .add 3 (.tmp 23) (.const (.int .i64 1)) 3, none)) rfl rfl (fun w' hS => val_addi rfl rfl (by omega) (by omega)) ?_
      refine yS (by kernel_rfl : opAt F19.o10 1 = some (some 23, .move (.tmp 38), none)) rfl rfl (fun w' hS => val_move rfl) ?_
      refine Sch.nil ?_
      refine kp (sub_cons 0 rfl rfl (sub_cons 3 rfl (eq_int (by simp only [hmk]; omega)) (sub_cons 4 rfl rfl (sub_cons 7 rfl rfl (sub_cons 8 rfl rfl (sub_cons 22 rfl rfl (sub_cons 23 rfl (eq_int (by simp)) (sub_nil _)))))))) (next2 (k + 1) _ ⟨(by first | omega | (simp only; omega)), rfl⟩ (by first | omega | (simp only; omega)))
    · skip
      obtain rfl : k = l[i].length := by omega
      rw [List.take_length] at *
      refine run_exit (id := 2) (by kernel_rfl) rfl ?_
      refine run_seq (x := F19.c39) (y := F19.c40) (by kernel_rfl) ?_
      refine run_plain (id := 11) (ops := F19.o11) [(0, true), (1, true)] (by kernel_rfl) (by kernel_rfl) ?_
      refine yS (by kernel_rfl : opAt F19.o11 0 = some (some 39, .move (.tmp 3), none)) rfl rfl (fun w' hS => val_move rfl) ?_
      refine yS (by kernel_rfl : opAt F19.o11 1 = some (some 40, .binOp .gtr 3 (.tmp 39) (.const (.int .i64 300)) 3, none)) rfl rfl (fun w' hS => val_gtr rfl rfl) ?_
      refine Sch.nil ?_
      refine run_if (x := F19.c41) (y := F19.c44) (o := .tmp 40) (by kernel_rfl) rfl (fun h40 => ?_) (fun h40 => ?_)
      · skip
        refine run_seq (x := F19.c42) (y := F19.c43) (by kernel_rfl) ?_
        refine run_plain (id := 12) (ops := F19.o12) [(0, true)] (by kernel_rfl) (by kernel_rfl) ?_
        refine yS (by kernel_rfl : opAt F19.o12 0 = some (some 2, .assign (.const (.bool false)), none)) rfl rfl (fun w' hS => val_assign rfl) ?_
        refine Sch.nil ?_
        refine run_ret1 (by kernel_rfl) Try.func19 Try.results19 rfl ?_
        have hsl := sizeW_le l (i + 1)
        exact ⟨eq_bool (decide_eq_false (fun e => by have := e.1; omega)).symm, rfl⟩
      · skip
        refine run_skip (by kernel_rfl) ?_
        refine run_inBlock ?_
        refine run_plain (id := 13) (ops := F19.o13) [(0, true), (1, true)] (by kernel_rfl) (by kernel_rfl) ?_
        refine yS (by kernel_rfl : opAt F19.o13 0 = some (some 41, .binOp .add 3 (.tmp 8) (.const (.int .i64 1)) 3, none)) rfl rfl (fun w' hS => val_addi rfl rfl (by omega) (by omega)) ?_
        refine yS (by kernel_rfl : opAt F19.o13 1 = some (some 8, .move (.tmp 41), none)) rfl rfl (fun w' hS => val_move rfl) ?_
        refine Sch.nil ?_
        refine kp (sub_cons 0 rfl rfl (sub_cons 3 rfl (eq_int (by simp only [hst])) (sub_cons 7 rfl rfl (sub_cons 8 rfl (eq_int (by simp)) (sub_nil _))))) (next1 (i + 1) _ ⟨(by first | omega | (simp only; omega)), (by simp only [hst]; omega), rfl⟩ (by first | omega | (simp only; omega)))
  · skip
    obtain rfl : i = l.length := by omega
    rw [List.take_length] at hs
    refine run_exit (id := 0) (by kernel_rfl) rfl ?_
    refine run_seq (x := F19.c47) (y := F19.c48) (by kernel_rfl) ?_
    refine run_plain (id := 14) (ops := F19.o14) [(0, true), (1, true), (2, true), (3, true)] (by kernel_rfl) (by kernel_rfl) ?_
    refine yS (by kernel_rfl : opAt F19.o14 0 = some (some 42, .move (.tmp 0), none)) rfl rfl (fun w' hS => val_move rfl) ?_
    refine yS (by kernel_rfl : opAt F19.o14 1 = some (some 43, .call { callee := .builtin .len, args := #[(.tmp 42)], argTypes := #[28] }, none)) rfl rfl (fun w' hS => hl.lenV rfl Try.underlying28 w' ) ?_
    refine yS (by kernel_rfl : opAt F19.o14 2 = some (some 44, .binOp .leq 3 (.tmp 43) (.const (.int .i64 12)) 3, none)) rfl rfl (fun w' hS => val_leq rfl rfl) ?_
    refine yS (by kernel_rfl : opAt F19.o14 3 = some (some 2, .assign (.tmp 44), none)) rfl rfl (fun w' hS => val_assign rfl) ?_
    refine Sch.nil ?_
    refine run_ret1 (by kernel_rfl) Try.func19 Try.results19 rfl ?_
    exact ⟨eq_bool (decide_eq_decide.2 ⟨fun e => ⟨hs, by omega⟩, fun e => by have := e.2; omega⟩), rfl⟩
theorem blockLists_any {w : World} {C : Nat → Nat} {i b keys most : Nat} (hF : Lim w C) (hi : i ≠ 0) (hd : DeckIs w C i b) (hk : keys ≤ 1000) (hm : most ≤ 1000) : Calls Try.prog 12 #[.pointer (some ⟨b, 0, none⟩), .int .i64 keys, .int .i64 most] w (Ret fun v w' => ∃ ls : List (List Block), Stp [i] w C w' C ∧ RV w' (Mc C) ls v ∧ (∀ r ∈ ls, total r ≤ most) ∧ DeckIs w' C i b) := by
  obtain ⟨d, h1, h2⟩ := hd
  exact (blockLists_ok hF hi h1 h2 hk hm).mono (Ret.mono fun v w' ⟨hs, hr, hd'⟩ => ⟨_, hs, hr, fun r hr => listsSt_total d _ r hr, _, hd', by rw [listsSt_list]; exact h2⟩)
namespace F6
noncomputable def c0 : Code := bodyOf Try.f6
noncomputable def c1 : Code := cl c0
noncomputable def o0 : Array Oper := rops c1
noncomputable def c2 : Code := cr c0
noncomputable def c3 : Code := cl c2
noncomputable def c4 : Code := cl c3
noncomputable def o1 : Array Oper := rops c4
noncomputable def c5 : Code := cr c3
noncomputable def c6 : Code := cl c5
noncomputable def c7 : Code := cl c6
noncomputable def o2 : Array Oper := rops c7
noncomputable def c8 : Code := cr c6
noncomputable def c9 : Code := cr c5
noncomputable def c10 : Code := cr c2
noncomputable def c11 : Code := cl c10
noncomputable def o3 : Array Oper := rops c11
noncomputable def c12 : Code := cr c10
noncomputable def c13 : Code := cl c12
noncomputable def o4 : Array Oper := rops c13
noncomputable def c14 : Code := cr c12
noncomputable def c15 : Code := cl c14
noncomputable def c16 : Code := cl c15
noncomputable def o5 : Array Oper := rops c16
noncomputable def c17 : Code := cr c15
noncomputable def c18 : Code := cl c17
noncomputable def c19 : Code := cl c18
noncomputable def c20 : Code := cl c19
noncomputable def o6 : Array Oper := rops c20
noncomputable def c21 : Code := cr c19
noncomputable def c22 : Code := cl c21
noncomputable def c23 : Code := cl c22
noncomputable def c24 : Code := cr c22
noncomputable def c25 : Code := cr c21
noncomputable def c26 : Code := cl c25
noncomputable def c27 : Code := cl c26
noncomputable def c28 : Code := cl c27
noncomputable def o7 : Array Oper := rops c28
noncomputable def c29 : Code := cr c27
noncomputable def c30 : Code := cl c29
noncomputable def c31 : Code := cl c30
noncomputable def o8 : Array Oper := rops c31
noncomputable def c32 : Code := cr c30
noncomputable def c33 : Code := cl c32
noncomputable def c34 : Code := cl c33
noncomputable def c35 : Code := cl c34
noncomputable def c36 : Code := cl c35
noncomputable def o9 : Array Oper := rops c36
noncomputable def c37 : Code := cr c35
noncomputable def c38 : Code := cl c37
noncomputable def c39 : Code := cr c37
noncomputable def c40 : Code := cr c34
noncomputable def c41 : Code := cl c40
noncomputable def c42 : Code := cl c41
noncomputable def c43 : Code := cl c42
noncomputable def o11 : Array Oper := rops c43
noncomputable def c44 : Code := cr c42
noncomputable def c45 : Code := cl c44
noncomputable def o12 : Array Oper := rops c45
noncomputable def c46 : Code := cr c44
noncomputable def c47 : Code := cl c46
noncomputable def o13 : Array Oper := rops c47
noncomputable def c48 : Code := cr c46
noncomputable def c49 : Code := cl c48
noncomputable def c50 : Code := cl c49
noncomputable def o14 : Array Oper := rops c50
noncomputable def c51 : Code := cr c49
noncomputable def c52 : Code := cr c48
noncomputable def c53 : Code := cr c40
noncomputable def o10 : Array Oper := rops c53
noncomputable def c54 : Code := cr c29
noncomputable def c55 : Code := cl c54
noncomputable def c56 : Code := cl c55
noncomputable def o15 : Array Oper := rops c56
noncomputable def c57 : Code := cr c55
noncomputable def c58 : Code := cl c57
noncomputable def c59 : Code := cl c58
noncomputable def c60 : Code := cl c59
noncomputable def o16 : Array Oper := rops c60
noncomputable def c61 : Code := cr c59
noncomputable def c62 : Code := cl c61
noncomputable def c63 : Code := cl c62
noncomputable def c64 : Code := cr c62
noncomputable def c65 : Code := cr c61
noncomputable def c66 : Code := cl c65
noncomputable def c67 : Code := cl c66
noncomputable def c68 : Code := cl c67
noncomputable def o17 : Array Oper := rops c68
noncomputable def c69 : Code := cr c67
noncomputable def c70 : Code := cl c69
noncomputable def o18 : Array Oper := rops c70
noncomputable def c71 : Code := cr c69
noncomputable def c72 : Code := cl c71
noncomputable def o19 : Array Oper := rops c72
noncomputable def c73 : Code := cr c71
noncomputable def c74 : Code := cl c73
noncomputable def o20 : Array Oper := rops c74
noncomputable def c75 : Code := cr c73
noncomputable def c76 : Code := cl c75
noncomputable def o21 : Array Oper := rops c76
noncomputable def c77 : Code := cr c75
noncomputable def c78 : Code := cl c77
noncomputable def o22 : Array Oper := rops c78
noncomputable def c79 : Code := cr c77
noncomputable def c80 : Code := cl c79
noncomputable def o23 : Array Oper := rops c80
noncomputable def c81 : Code := cr c79
noncomputable def c82 : Code := cl c81
noncomputable def o24 : Array Oper := rops c82
noncomputable def c83 : Code := cr c81
noncomputable def c84 : Code := cl c83
noncomputable def c85 : Code := cl c84
noncomputable def o25 : Array Oper := rops c85
noncomputable def c86 : Code := cr c84
noncomputable def c87 : Code := cr c83
noncomputable def c88 : Code := cr c65
noncomputable def o26 : Array Oper := rops c88
noncomputable def c89 : Code := cr c54
noncomputable def c90 : Code := cl c89
noncomputable def o27 : Array Oper := rops c90
noncomputable def c91 : Code := cr c89
noncomputable def c92 : Code := cl c91
noncomputable def o28 : Array Oper := rops c92
noncomputable def c93 : Code := cr c91
noncomputable def c94 : Code := cl c93
noncomputable def o29 : Array Oper := rops c94
noncomputable def c95 : Code := cr c93
noncomputable def c96 : Code := cl c95
noncomputable def c97 : Code := cl c96
noncomputable def o30 : Array Oper := rops c97
noncomputable def c98 : Code := cr c96
noncomputable def c99 : Code := cr c95
noncomputable def c100 : Code := cr c25
noncomputable def o31 : Array Oper := rops c100
noncomputable def c101 : Code := cr c14
noncomputable def c102 : Code := cl c101
noncomputable def o32 : Array Oper := rops c102
noncomputable def c103 : Code := cr c101
end F6
/-- The statement's function answers true. -/
theorem pairsExact_ok {w₀ : World} {C : Nat → Nat} {l : List Int} {raw odd : List (List Block)} {vl vr vo : Value} {mask : Int} (hqr : ∀ r ∈ raw, r.length ≤ 4398046511104) (hqo : ∀ r ∈ odd, r.length ≤ 4398046511104) (hF : Lim w₀ C) (hl : RV w₀ (Mc C) l vl) (hr : RV w₀ (Mc C) raw vr) (ho : RV w₀ (Mc C) odd vo) : Calls Try.prog 6 #[vl, vr, vo, .int .i64 mask] w₀ (Ret fun v w' => v = .bool true ∧ Stp [] w₀ C w' C) := by
  have hF0 := hF
  have hT := Stp.refl [2, 3, 4, 5, 6, 7, 8, 9] w₀ (col1 C)
  replace hF := hF.col1
  replace hl : RV w₀ (Mc (col1 C)) l vl := by rw [Mc_col1]; exact hl
  replace hr : RV w₀ (Mc (col1 C)) raw vr := by rw [Mc_col1]; exact hr
  replace ho : RV w₀ (Mc (col1 C)) odd vo := by rw [Mc_col1]; exact ho
  refine calls_start (c := F6.c0) (N := 267) [vl, vr, vo, .int .i64 mask] Try.func6 (by kernel_rfl) (by kernel_rfl) (by kernel_rfl) ?_
  show Run _ _ _ _ [(0, vl), (1, vr), (2, vo), (3, .int .i64 mask)] _ _
  refine run_seq (x := F6.c1) (y := F6.c2) (by kernel_rfl) ?_
  refine run_plain (id := 0) (ops := F6.o0) [(0, true)] (by kernel_rfl) (by kernel_rfl) ?_
  refine yS (by kernel_rfl : opAt F6.o0 0 = some (some 8, .assign (.const (.bool false)), none)) rfl rfl (fun w' hS => val_assign rfl) ?_
  refine Sch.nil ?_
  refine run_seq (x := F6.c3) (y := F6.c10) (by kernel_rfl) ?_
  refine run_seq (x := F6.c4) (y := F6.c5) (by kernel_rfl) ?_
  by_cases hA : (l.length : Int) ≤ 400
  · skip
    by_cases hB : smallP raw
    · skip
      by_cases hC : smallP odd
      · skip
        refine run_plain (id := 1) (ops := F6.o1) [(0, false), (1, true), (2, true), (3, true), (4, false), (5, true), (6, true), (7, true), (8, true), (9, false), (10, true), (11, true), (12, true), (13, true), (14, false), (15, true), (16, true)] (by kernel_rfl) (by kernel_rfl) ?_
        refine cS (by kernel_rfl : opAt F6.o1 0 = some (some 36, .call { callee := .value (.func 8), args := #[], argTypes := #[] }, none)) rfl rfl (ent Try.call8 rfl) (awake_ok hF) ?_
        rintro vw1 w1 ⟨rfl, hs⟩
        refine ⟨trivial, ?_⟩
        replace hF := hF.st hs
        replace hT := hT.trans hs (by simp)
        replace hl := hl.st hs (by first | decide | (simp <;> omega))
        replace hr := hr.st hs (by first | decide | (simp <;> omega))
        replace ho := ho.st hs (by first | decide | (simp <;> omega))
        refine yS (by kernel_rfl : opAt F6.o1 1 = some (some 37, .unOp .not 4 (.tmp 36), none)) rfl rfl (fun w' hS => val_not rfl) ?_
        refine yS (by kernel_rfl : opAt F6.o1 2 = some (some 38, .move (.tmp 37), none)) rfl rfl (fun w' hS => val_move rfl) ?_
        refine yS (by kernel_rfl : opAt F6.o1 3 = some (some 39, .move (.tmp 0), (some (2, false)))) rfl rfl (fun w' hS => val_move rfl) ?_
        refine cS (by kernel_rfl : opAt F6.o1 4 = some (some 40, .call { callee := .value (.func 9), args := #[(.tmp 39)], argTypes := #[22] }, (some (2, false)))) rfl rfl (ent Try.call9 rfl) (few_any hl) ?_
        rintro vw2 w2 ⟨rfl, rfl⟩
        rw [decide_eq_true (hA)]
        refine ⟨trivial, ?_⟩
        refine yS (by kernel_rfl : opAt F6.o1 5 = some (some 41, .unOp .not 4 (.tmp 40), (some (2, false)))) rfl rfl (fun w' hS => val_not rfl) ?_
        refine yS (by kernel_rfl : opAt F6.o1 6 = some (some 42, .pick (.tmp 38) (.const (.bool true)) (.tmp 41), none)) rfl rfl (fun w' hS => val_pick_f rfl rfl) ?_
        refine yS (by kernel_rfl : opAt F6.o1 7 = some (some 43, .move (.tmp 42), none)) rfl rfl (fun w' hS => val_move rfl) ?_
        refine yS (by kernel_rfl : opAt F6.o1 8 = some (some 44, .move (.tmp 1), (some (7, false)))) rfl rfl (fun w' hS => val_move rfl) ?_
        refine cS (by kernel_rfl : opAt F6.o1 9 = some (some 45, .call { callee := .value (.func 19), args := #[(.tmp 44)], argTypes := #[28] }, (some (7, false)))) rfl rfl (ent Try.call19 rfl) (small_ok hr hqr) ?_
        rintro vw3 w3 ⟨rfl, rfl⟩
        rw [decide_eq_true (hB)]
        refine ⟨trivial, ?_⟩
        refine yS (by kernel_rfl : opAt F6.o1 10 = some (some 46, .unOp .not 4 (.tmp 45), (some (7, false)))) rfl rfl (fun w' hS => val_not rfl) ?_
        refine yS (by kernel_rfl : opAt F6.o1 11 = some (some 47, .pick (.tmp 43) (.const (.bool true)) (.tmp 46), none)) rfl rfl (fun w' hS => val_pick_f rfl rfl) ?_
        refine yS (by kernel_rfl : opAt F6.o1 12 = some (some 48, .move (.tmp 47), none)) rfl rfl (fun w' hS => val_move rfl) ?_
        refine yS (by kernel_rfl : opAt F6.o1 13 = some (some 49, .move (.tmp 2), (some (12, false)))) rfl rfl (fun w' hS => val_move rfl) ?_
        refine cS (by kernel_rfl : opAt F6.o1 14 = some (some 50, .call { callee := .value (.func 19), args := #[(.tmp 49)], argTypes := #[28] }, (some (12, false)))) rfl rfl (ent Try.call19 rfl) (small_ok ho hqo) ?_
        rintro vw4 w4 ⟨rfl, rfl⟩
        rw [decide_eq_true (hC)]
        refine ⟨trivial, ?_⟩
        refine yS (by kernel_rfl : opAt F6.o1 15 = some (some 51, .unOp .not 4 (.tmp 50), (some (12, false)))) rfl rfl (fun w' hS => val_not rfl) ?_
        refine yS (by kernel_rfl : opAt F6.o1 16 = some (some 52, .pick (.tmp 48) (.const (.bool true)) (.tmp 51), none)) rfl rfl (fun w' hS => val_pick_f rfl rfl) ?_
        refine Sch.nil ?_
        refine run_cond (x := F6.c6) (y := F6.c9) (o := .tmp 52) (b := false) (by kernel_rfl) rfl (fun h => by cases h) (fun _ => ?_)
        refine run_skip (by kernel_rfl) ?_
        refine run_seq (x := F6.c11) (y := F6.c12) (by kernel_rfl) ?_
        refine run_plain (id := 3) (ops := F6.o3) [(0, true), (1, false), (2, true)] (by kernel_rfl) (by kernel_rfl) ?_
        refine yS (by kernel_rfl : opAt F6.o3 0 = some (some 54, .move (.tmp 0), none)) rfl rfl (fun w' hS => val_move rfl) ?_
        refine cS (by kernel_rfl : opAt F6.o3 1 = some (some 55, .call { callee := .value (.func 10), args := #[(.tmp 54)], argTypes := #[22] }, none)) rfl rfl (ent Try.call10 rfl) (new_any hF hl) ?_
        rintro vw5 w5 ⟨Cd, bd, rfl, hs, hF, hd⟩
        refine ⟨trivial, ?_⟩
        replace hT := hT.trans hs (by simp)
        replace hl := hl.st hs (by first | decide | (simp <;> omega))
        replace hr := hr.st hs (by first | decide | (simp <;> omega))
        replace ho := ho.st hs (by first | decide | (simp <;> omega))
        refine yS (by kernel_rfl : opAt F6.o3 2 = some (some 9, .assign (.tmp 55), none)) rfl rfl (fun w' hS => val_assign rfl) ?_
        refine Sch.nil ?_
        refine run_seq (x := F6.c13) (y := F6.c14) (by kernel_rfl) ?_
        refine run_plain (id := 4) (ops := F6.o4) [(0, true), (1, false), (2, true)] (by kernel_rfl) (by kernel_rfl) ?_
        refine yS (by kernel_rfl : opAt F6.o4 0 = some (some 56, .move (.tmp 9), none)) rfl rfl (fun w' hS => val_move rfl) ?_
        refine cS (by kernel_rfl : opAt F6.o4 1 = some (some 57, .call { callee := .value (.func 11), args := #[(.tmp 56), (.const (.int .i64 4))], argTypes := #[25, 3] }, none)) rfl rfl (ent Try.call11 rfl) (next_any (n := 4) hF (by decide) hd (by omega) (by omega)) ?_
        rintro vw6 w6 ⟨n1, rfl, hn1, hs, hd⟩
        refine ⟨trivial, ?_⟩
        replace hF := hF.st hs
        replace hT := hT.trans hs (by simp)
        replace hl := hl.st hs (by first | decide | (simp <;> omega))
        replace hr := hr.st hs (by first | decide | (simp <;> omega))
        replace ho := ho.st hs (by first | decide | (simp <;> omega))
        refine yS (by kernel_rfl : opAt F6.o4 2 = some (some 10, .assign (.tmp 57), none)) rfl rfl (fun w' hS => val_assign rfl) ?_
        refine Sch.nil ?_
        refine run_seq (x := F6.c15) (y := F6.c101) (by kernel_rfl) ?_
        refine run_seq (x := F6.c16) (y := F6.c17) (by kernel_rfl) ?_
        refine run_plain (id := 5) (ops := F6.o5) [(0, true), (1, true), (2, true), (3, true), (4, true), (5, false), (6, true), (7, true), (8, false), (9, true), (10, true), (11, true), (12, true), (13, true), (14, true), (15, true), (16, false), (17, true), (18, true), (19, false), (20, true), (21, true)] (by kernel_rfl) (by kernel_rfl) ?_
        refine yS (by kernel_rfl : opAt F6.o5 0 = some (some 58, .move (.tmp 1), none)) rfl rfl (fun w' hS => val_move rfl) ?_
        refine yS (by kernel_rfl : opAt F6.o5 1 = some (some 59, .move (.tmp 2), none)) rfl rfl (fun w' hS => val_move rfl) ?_
        refine yS (by kernel_rfl : opAt F6.o5 2 = some (some 60, .build 46 #[(0, (.tmp 58)), (1, (.tmp 59))], none)) rfl rfl (fun w' hS => val_buildArr (zs := [.slice none 0 0, .slice none 0 0]) (n := 1) (qs := [(0, [vr]), (1, [vo])]) (cs := [vr, vo]) Try.underlying46 (by kernel_rfl) (by kernel_rfl) (by exact ⟨rfl, ⟨_, rfl, (hr.one rfl).1⟩, rfl, ⟨_, rfl, (ho.one rfl).1⟩, trivial⟩) rfl) ?_
        refine yS (by kernel_rfl : opAt F6.o5 3 = some (some 61, .move (.tmp 9), none)) rfl rfl (fun w' hS => val_move rfl) ?_
        refine yS (by kernel_rfl : opAt F6.o5 4 = some (some 62, .move (.tmp 10), none)) rfl rfl (fun w' hS => val_move rfl) ?_
        refine cS (by kernel_rfl : opAt F6.o5 5 = some (some 63, .call { callee := .value (.func 12), args := #[(.tmp 61), (.tmp 62), (.const (.int .i64 9))], argTypes := #[25, 3, 3] }, none)) rfl rfl (ent Try.call12 rfl) (blockLists_any (keys := n1) (most := 9) hF (by decide) hd (by omega) (by decide)) ?_
        rintro va w7 ⟨la, hs, ha, hsa, hd⟩
        refine ⟨trivial, ?_⟩
        replace hF := hF.st hs
        replace hT := hT.trans hs (by simp)
        replace hl := hl.st hs (by first | decide | (simp <;> omega))
        replace hr := hr.st hs (by first | decide | (simp <;> omega))
        replace ho := ho.st hs (by first | decide | (simp <;> omega))
        refine yS (by kernel_rfl : opAt F6.o5 6 = some (some 64, .move (.tmp 9), none)) rfl rfl (fun w' hS => val_move rfl) ?_
        refine yS (by kernel_rfl : opAt F6.o5 7 = some (some 65, .move (.tmp 10), none)) rfl rfl (fun w' hS => val_move rfl) ?_
        refine cS (by kernel_rfl : opAt F6.o5 8 = some (some 66, .call { callee := .value (.func 12), args := #[(.tmp 64), (.tmp 65), (.const (.int .i64 9))], argTypes := #[25, 3, 3] }, none)) rfl rfl (ent Try.call12 rfl) (blockLists_any (keys := n1) (most := 9) hF (by decide) hd (by omega) (by decide)) ?_
        rintro vb w8 ⟨lb, hs, hb, hsb, hd⟩
        refine ⟨trivial, ?_⟩
        replace hF := hF.st hs
        replace hT := hT.trans hs (by simp)
        replace hl := hl.st hs (by first | decide | (simp <;> omega))
        replace hr := hr.st hs (by first | decide | (simp <;> omega))
        replace ho := ho.st hs (by first | decide | (simp <;> omega))
        replace ha := ha.st hs (by first | decide | (simp <;> omega))
        refine yS (by kernel_rfl : opAt F6.o5 9 = some (some 67, .build 46 #[(0, (.tmp 63)), (1, (.tmp 66))], none)) rfl rfl (fun w' hS => val_buildArr (zs := [.slice none 0 0, .slice none 0 0]) (n := 1) (qs := [(0, [va]), (1, [vb])]) (cs := [va, vb]) Try.underlying46 (by kernel_rfl) (by kernel_rfl) (by exact ⟨rfl, ⟨_, rfl, (ha.one rfl).1⟩, rfl, ⟨_, rfl, (hb.one rfl).1⟩, trivial⟩) rfl) ?_
        refine yS (by kernel_rfl : opAt F6.o5 10 = some (some 68, .move (.tmp 1), none)) rfl rfl (fun w' hS => val_move rfl) ?_
        refine yS (by kernel_rfl : opAt F6.o5 11 = some (some 69, .move (.tmp 1), none)) rfl rfl (fun w' hS => val_move rfl) ?_
        refine yS (by kernel_rfl : opAt F6.o5 12 = some (some 70, .build 46 #[(0, (.tmp 68)), (1, (.tmp 69))], none)) rfl rfl (fun w' hS => val_buildArr (zs := [.slice none 0 0, .slice none 0 0]) (n := 1) (qs := [(0, [vr]), (1, [vr])]) (cs := [vr, vr]) Try.underlying46 (by kernel_rfl) (by kernel_rfl) (by exact ⟨rfl, ⟨_, rfl, (hr.one rfl).1⟩, rfl, ⟨_, rfl, (hr.one rfl).1⟩, trivial⟩) rfl) ?_
        refine yS (by kernel_rfl : opAt F6.o5 13 = some (some 71, .move (.tmp 9), none)) rfl rfl (fun w' hS => val_move rfl) ?_
        refine yS (by kernel_rfl : opAt F6.o5 14 = some (some 72, .move (.tmp 2), none)) rfl rfl (fun w' hS => val_move rfl) ?_
        refine yS (by kernel_rfl : opAt F6.o5 15 = some (some 73, .call { callee := .builtin .len, args := #[(.tmp 72)], argTypes := #[28] }, none)) rfl rfl (fun w' hS => ho.lenV rfl Try.underlying28 w' ) ?_
        have hol := hC.2
        refine cS (by kernel_rfl : opAt F6.o5 16 = some (some 74, .call { callee := .value (.func 12), args := #[(.tmp 71), (.tmp 73), (.const (.int .i64 5))], argTypes := #[25, 3, 3] }, none)) rfl rfl (ent Try.call12 rfl) (blockLists_any (keys := odd.length) (most := 5) hF (by decide) hd (by omega) (by decide)) ?_
        rintro vc w9 ⟨lc, hs, hc, hsc, hd⟩
        refine ⟨trivial, ?_⟩
        replace hF := hF.st hs
        replace hT := hT.trans hs (by simp)
        replace hl := hl.st hs (by first | decide | (simp <;> omega))
        replace hr := hr.st hs (by first | decide | (simp <;> omega))
        replace ho := ho.st hs (by first | decide | (simp <;> omega))
        replace ha := ha.st hs (by first | decide | (simp <;> omega))
        replace hb := hb.st hs (by first | decide | (simp <;> omega))
        refine yS (by kernel_rfl : opAt F6.o5 17 = some (some 75, .move (.tmp 2), none)) rfl rfl (fun w' hS => val_move rfl) ?_
        refine yS (by kernel_rfl : opAt F6.o5 18 = some (some 76, .build 46 #[(0, (.tmp 74)), (1, (.tmp 75))], none)) rfl rfl (fun w' hS => val_buildArr (zs := [.slice none 0 0, .slice none 0 0]) (n := 1) (qs := [(0, [vc]), (1, [vo])]) (cs := [vc, vo]) Try.underlying46 (by kernel_rfl) (by kernel_rfl) (by exact ⟨rfl, ⟨_, rfl, (hc.one rfl).1⟩, rfl, ⟨_, rfl, (ho.one rfl).1⟩, trivial⟩) rfl) ?_
        refine aS (by kernel_rfl : opAt F6.o5 19 = some (some 77, .buildSlice 47 4 #[(0, (.tmp 60)), (1, (.tmp 67)), (2, (.tmp 70)), (3, (.tmp 76))], none)) rfl rfl (a_buildSlice (ys := ([(raw, odd), (la, lb), (raw, raw), (lc, odd)] : List (List (List Block) × List (List Block)))) (e := 46) (bytes := 48) hF (by kernel_rfl) rfl (by decide) (by decide) ⟨rfl, ⟨_, rfl, rv2 hr ho⟩, rfl, ⟨_, rfl, rv2 ha hb⟩, rfl, ⟨_, rfl, rv2 hr hr⟩, rfl, ⟨_, rfl, rv2 hc ho⟩, trivial⟩) ?_
        rintro v77 w10 ⟨hs, hL, hF⟩
        refine ⟨trivial, ?_⟩
        replace hT := hT.trans hs (by simp)
        replace hl := hl.st hs (by first | decide | (simp <;> omega))
        replace hr := hr.st hs (by first | decide | (simp <;> omega))
        replace ho := ho.st hs (by first | decide | (simp <;> omega))
        replace hd := hd.st hs (by first | decide | (simp <;> omega)) (by first | decide | (simp <;> omega))
        replace ha := ha.st hs (by first | decide | (simp <;> omega))
        replace hb := hb.st hs (by first | decide | (simp <;> omega))
        replace hc := hc.st hs (by first | decide | (simp <;> omega))
        obtain ⟨L, hLe⟩ : ∃ L : List (List (List Block) × List (List Block)), L = [(raw, odd), (la, lb), (raw, raw), (lc, odd)] := ⟨_, rfl⟩
        rw [← hLe] at hL
        have hL4 : L.length = 4 := by rw [hLe]; rfl
        have hLs : ∀ p ∈ L, (∀ r ∈ p.1, total r ≤ 4611686018427387904) ∧ (∀ r ∈ p.2, total r ≤ 4611686018427387904) := by
          intro p hp
          rw [hLe] at hp
          simp only [List.mem_cons, List.not_mem_nil, or_false] at hp
          rcases hp with rfl | rfl | rfl | rfl
          · exact ⟨small_total hB, small_total hC⟩
          · exact ⟨fun r hr => by have := hsa r hr; omega, fun r hr => by have := hsb r hr; omega⟩
          · exact ⟨small_total hB, small_total hB⟩
          · exact ⟨fun r hr => by have := hsc r hr; omega, small_total hC⟩
        clear hsa hsb hsc
        refine yS (by kernel_rfl : opAt F6.o5 20 = some (some 78, .call { callee := .builtin .len, args := #[(.tmp 77)], argTypes := #[47] }, none)) rfl rfl (fun w' hS => hL.lenV rfl Try.underlying47 w' ) ?_
        refine yS (by kernel_rfl : opAt F6.o5 21 = some (some 79, .move (.const (.int .i64 0)), none)) rfl rfl (fun w' hS => val_move rfl) ?_
        refine Sch.nil ?_
        refine run_block (x := F6.c18) (id := 0) (by kernel_rfl) ?_
        
        refine run_loop (ι := Nat × (Nat → Nat)) (I := fun x w => x.1 ≤ L.length ∧ Lim w x.2 ∧ Stp [2, 3, 4, 5, 6, 7, 8, 9] w₀ (col1 C) w x.2 ∧ RV w (Mc x.2) L v77 ∧ DeckIs w x.2 3 bd) (e := fun x => [(3, .int .i64 mask), (9, .pointer (some ⟨bd, 0, none⟩)), (77, v77), (78, .int .i64 L.length), (79, .int .i64 x.1)]) (m := fun x => L.length - x.1) (x₀ := (0, Cd)) (body := F6.c19) (by kernel_rfl) (sub_cons 3 rfl rfl (sub_cons 9 rfl rfl (sub_cons 77 rfl rfl (sub_cons 78 rfl rfl (sub_cons 79 rfl rfl (sub_nil _)))))) ?_ ?_
        · exact ⟨Nat.zero_le _, hF, hT, hL, hd⟩
        intro ⟨j, C1⟩ w11 hI next
        obtain ⟨hj, hF, hT, hL, hd⟩ := hI
        try simp only at hj hF hT hL hd
        have next1 := next
        clear next
        show Run _ _ _ _ [(3, .int .i64 mask), (9, .pointer (some ⟨bd, 0, none⟩)), (77, v77), (78, .int .i64 L.length), (79, .int .i64 j)] _ _
        refine run_seq (x := F6.c20) (y := F6.c21) (by kernel_rfl) ?_
        refine run_plain (id := 6) (ops := F6.o6) [(0, true)] (by kernel_rfl) (by kernel_rfl) ?_
        refine yS (by kernel_rfl : opAt F6.o6 0 = some (some 80, .binOp .lss 3 (.tmp 79) (.tmp 78) 3, none)) rfl rfl (fun w' hS => val_lss rfl rfl) ?_
        refine Sch.nil ?_
        refine run_seq (x := F6.c22) (y := F6.c25) (by kernel_rfl) ?_
        refine run_if (x := F6.c23) (y := F6.c24) (o := .tmp 80) (by kernel_rfl) rfl (fun h80 => ?_) (fun h80 => ?_)
        · skip
          have hjl : j < L.length := by omega
          obtain ⟨hsa, hsb⟩ := hLs L[j] (List.getElem_mem hjl)
          refine run_skip (by kernel_rfl) ?_
          refine run_seq (x := F6.c26) (y := F6.c100) (by kernel_rfl) ?_
          refine run_block (x := F6.c27) (id := 1) (by kernel_rfl) ?_
          refine run_seq (x := F6.c28) (y := F6.c29) (by kernel_rfl) ?_
          refine run_plain (id := 7) (ops := F6.o7) [(0, true), (1, false), (2, false), (3, false)] (by kernel_rfl) (by kernel_rfl) ?_
          refine iS (e := 46) (by kernel_rfl : opAt F6.o7 0 = some (some 81, .indexAddr 47 (.tmp 77) (.tmp 79), none)) rfl rfl hL rfl (by kernel_rfl) rfl (by omega) (by omega) ?_
          intro b81 o81 h81
          try simp only [Int.toNat_natCast] at h81
          refine lNA (by kernel_rfl : opAt F6.o7 1 = some (some 82, .load 46 (.tmp 81), none)) rfl rfl trivial h81 (by kernel_rfl) (by kernel_rfl) rfl rfl ?_
          intro v82 g82
          obtain ⟨u1, u2, rfl, ga, gb⟩ := rv2' g82
          clear h81
          obtain ⟨a, ha0⟩ : ∃ a, a = L[j].1 := ⟨_, rfl⟩
          obtain ⟨b, hb0⟩ : ∃ b, b = L[j].2 := ⟨_, rfl⟩
          rw [← ha0] at ga hsa
          rw [← hb0] at gb hsb
          have hale := ga.le
          have hble := gb.le
          refine aS (by kernel_rfl : opAt F6.o7 2 = some (some 12, .alloc 46, none)) rfl rfl (a_alloc (cs := [.slice none 0 0, .slice none 0 0]) hF 4 (by kernel_rfl)) ?_
          rintro _ w12 ⟨Cw12, bw12, rfl, hs, hx, hF⟩
          refine ⟨trivial, ?_⟩
          replace hT := hT.trans hs (by simp)
          replace hL := hL.st hs (by first | decide | (simp <;> omega))
          replace hd := hd.st hs (by first | decide | (simp <;> omega)) (by first | decide | (simp <;> omega))
          replace ga := ga.st hs (by first | decide | (simp <;> omega))
          replace gb := gb.st hs (by first | decide | (simp <;> omega))
          refine aN (by kernel_rfl : opAt F6.o7 3 = some (none, .store 46 (.tmp 12) (.tmp 82), none)) rfl (a_storeAll (vs := [u1, u2]) (n := 2) rfl rfl (by kernel_rfl) rfl rfl (by intro u hu; simp only [List.mem_cons, List.not_mem_nil, or_false] at hu; rcases hu with rfl | rfl <;> first | exact (ga.one rfl).2 | exact (gb.one rfl).2) hx rfl) ?_
          rintro _ w13 ⟨rfl, hs, hx⟩
          refine ⟨trivial, ?_⟩
          replace hF := hF.st hs
          replace hT := hT.trans hs (by simp)
          replace hL := hL.st hs (by first | decide | (simp <;> omega))
          replace hd := hd.st hs (by first | decide | (simp <;> omega)) (by first | decide | (simp <;> omega))
          replace ga := ga.st hs (by first | decide | (simp <;> omega))
          replace gb := gb.st hs (by first | decide | (simp <;> omega))
          refine Sch.nil ?_
          refine run_seq (x := F6.c30) (y := F6.c54) (by kernel_rfl) ?_
          refine run_seq (x := F6.c31) (y := F6.c32) (by kernel_rfl) ?_
          refine run_plain (id := 8) (ops := F6.o8) [(0, true)] (by kernel_rfl) (by kernel_rfl) ?_
          refine yS (by kernel_rfl : opAt F6.o8 0 = some (some 13, .assign (.const (.int .i64 0)), none)) rfl rfl (fun w' hS => val_assign rfl) ?_
          refine Sch.nil ?_
          refine run_block (x := F6.c33) (id := 2) (by kernel_rfl) ?_
          
          refine run_loop (ι := Nat × (Nat → Nat)) (I := fun x w => x.1 ≤ a.length ∧ Lim w x.2 ∧ Stp [2, 3, 4, 5, 6, 7, 8, 9] w₀ (col1 C) w x.2 ∧ RV w (Mc x.2) L v77 ∧ DeckIs w x.2 3 bd ∧ OwnB w x.2 4 bw12 (.cells [u1, u2].toArray 46) ∧ RV w (Mc x.2) a u1 ∧ RV w (Mc x.2) b u2) (e := fun x => [(3, .int .i64 mask), (9, .pointer (some ⟨bd, 0, none⟩)), (12, .pointer (some ⟨bw12, 0, none⟩)), (13, .int .i64 x.1), (77, v77), (78, .int .i64 L.length), (79, .int .i64 j)]) (m := fun x => a.length - x.1) (x₀ := (0, Cw12)) (body := F6.c34) (by kernel_rfl) (sub_cons 3 rfl rfl (sub_cons 9 rfl rfl (sub_cons 12 rfl rfl (sub_cons 13 rfl rfl (sub_cons 77 rfl rfl (sub_cons 78 rfl rfl (sub_cons 79 rfl rfl (sub_nil _)))))))) ?_ ?_
          · exact ⟨Nat.zero_le _, hF, hT, hL, hd, hx, ga, gb⟩
          intro ⟨i, C2⟩ w14 hI next
          obtain ⟨hi, hF, hT, hL, hd, hx, ga, gb⟩ := hI
          try simp only at hi hF hT hL hd hx ga gb
          have next2 := next
          clear next
          show Run _ _ _ _ [(3, .int .i64 mask), (9, .pointer (some ⟨bd, 0, none⟩)), (12, .pointer (some ⟨bw12, 0, none⟩)), (13, .int .i64 i), (77, v77), (78, .int .i64 L.length), (79, .int .i64 j)] _ _
          refine run_seq (x := F6.c35) (y := F6.c40) (by kernel_rfl) ?_
          refine run_seq (x := F6.c36) (y := F6.c37) (by kernel_rfl) ?_
          refine run_cut 94 (decide (i < a.length ∧ i < b.length)) (C2) ?_ ?_
          · intro hcut
            by_cases hI : i < a.length
            · skip
              refine run_plain (id := 9) (ops := F6.o9) [(0, true), (1, true), (2, false), (3, true), (4, true), (5, true), (6, true), (7, true), (8, false), (9, true), (10, true), (11, true)] (by kernel_rfl) (by kernel_rfl) ?_
              refine yS (by kernel_rfl : opAt F6.o9 0 = some (some 83, .move (.tmp 13), none)) rfl rfl (fun w' hS => val_move rfl) ?_
              refine yS (by kernel_rfl : opAt F6.o9 1 = some (some 84, .indexAddr 46 (.tmp 12) (.const (.int .i64 0)), none)) rfl rfl (fun w' hS => val_indexArr (n := 1) (o' := 0) Try.underlying46 (by kernel_rfl) rfl rfl (by decide) (by decide) rfl) ?_
              refine nS (by kernel_rfl : opAt F6.o9 2 = some (some 85, .load 28 (.tmp 84), none)) rfl rfl trivial (val_loadOwn hx.at_ (by kernel_rfl) rfl rfl) ?_
              refine yS (by kernel_rfl : opAt F6.o9 3 = some (some 86, .call { callee := .builtin .len, args := #[(.tmp 85)], argTypes := #[28] }, none)) rfl rfl (fun w' hS => ga.lenV rfl Try.underlying28 w' ) ?_
              refine yS (by kernel_rfl : opAt F6.o9 4 = some (some 87, .binOp .lss 3 (.tmp 83) (.tmp 86) 3, none)) rfl rfl (fun w' hS => val_T (val_lss rfl rfl) (by omega)) ?_
              refine yS (by kernel_rfl : opAt F6.o9 5 = some (some 88, .move (.tmp 87), none)) rfl rfl (fun w' hS => val_move rfl) ?_
              refine yS (by kernel_rfl : opAt F6.o9 6 = some (some 89, .move (.tmp 13), (some (5, true)))) rfl rfl (fun w' hS => val_move rfl) ?_
              refine yS (by kernel_rfl : opAt F6.o9 7 = some (some 90, .indexAddr 46 (.tmp 12) (.const (.int .i64 1)), (some (5, true)))) rfl rfl (fun w' hS => val_indexArr (n := 1) (o' := 1) Try.underlying46 (by kernel_rfl) rfl rfl (by decide) (by decide) rfl) ?_
              refine nS (by kernel_rfl : opAt F6.o9 8 = some (some 91, .load 28 (.tmp 90), (some (5, true)))) rfl rfl trivial (val_loadOwn hx.at_ (by kernel_rfl) rfl rfl) ?_
              refine yS (by kernel_rfl : opAt F6.o9 9 = some (some 92, .call { callee := .builtin .len, args := #[(.tmp 91)], argTypes := #[28] }, (some (5, true)))) rfl rfl (fun w' hS => gb.lenV rfl Try.underlying28 w' ) ?_
              refine yS (by kernel_rfl : opAt F6.o9 10 = some (some 93, .binOp .lss 3 (.tmp 89) (.tmp 92) 3, (some (5, true)))) rfl rfl (fun w' hS => val_lss rfl rfl) ?_
              refine yS (by kernel_rfl : opAt F6.o9 11 = some (some 94, .pick (.tmp 88) (.tmp 93) (.const (.bool false)), none)) rfl rfl (fun w' hS => val_pick_t rfl rfl) ?_
              exact Sch.nil (hcut _ _ _ (Stp.refl _ _ _) rfl (eq_bool (decide_eq_decide.2 (by omega))) (sub_skip rfl (sub_skip rfl (sub_skip rfl (sub_skip rfl (sub_skip rfl (sub_skip rfl (sub_skip rfl (sub_skip rfl (sub_skip rfl (sub_skip rfl (sub_skip rfl (sub_skip rfl (Sub.refl _))))))))))))))
            · skip
              refine run_plain (id := 9) (ops := F6.o9) [(0, true), (1, true), (2, false), (3, true), (4, true), (5, true), (6, true), (7, true), (8, false), (9, true), (10, true), (11, true)] (by kernel_rfl) (by kernel_rfl) ?_
              refine yS (by kernel_rfl : opAt F6.o9 0 = some (some 83, .move (.tmp 13), none)) rfl rfl (fun w' hS => val_move rfl) ?_
              refine yS (by kernel_rfl : opAt F6.o9 1 = some (some 84, .indexAddr 46 (.tmp 12) (.const (.int .i64 0)), none)) rfl rfl (fun w' hS => val_indexArr (n := 1) (o' := 0) Try.underlying46 (by kernel_rfl) rfl rfl (by decide) (by decide) rfl) ?_
              refine nS (by kernel_rfl : opAt F6.o9 2 = some (some 85, .load 28 (.tmp 84), none)) rfl rfl trivial (val_loadOwn hx.at_ (by kernel_rfl) rfl rfl) ?_
              refine yS (by kernel_rfl : opAt F6.o9 3 = some (some 86, .call { callee := .builtin .len, args := #[(.tmp 85)], argTypes := #[28] }, none)) rfl rfl (fun w' hS => ga.lenV rfl Try.underlying28 w' ) ?_
              refine yS (by kernel_rfl : opAt F6.o9 4 = some (some 87, .binOp .lss 3 (.tmp 83) (.tmp 86) 3, none)) rfl rfl (fun w' hS => val_F (val_lss rfl rfl) (by omega)) ?_
              refine yS (by kernel_rfl : opAt F6.o9 5 = some (some 88, .move (.tmp 87), none)) rfl rfl (fun w' hS => val_move rfl) ?_
              refine pS (by kernel_rfl : opAt F6.o9 6 = some (some 89, .move (.tmp 13), (some (5, true)))) rfl rfl ?_
              refine pS (by kernel_rfl : opAt F6.o9 7 = some (some 90, .indexAddr 46 (.tmp 12) (.const (.int .i64 1)), (some (5, true)))) rfl rfl ?_
              refine pW (by kernel_rfl : opAt F6.o9 8 = some (some 91, .load 28 (.tmp 90), (some (5, true)))) rfl rfl trivial ?_
              refine pS (by kernel_rfl : opAt F6.o9 9 = some (some 92, .call { callee := .builtin .len, args := #[(.tmp 91)], argTypes := #[28] }, (some (5, true)))) rfl rfl ?_
              refine pS (by kernel_rfl : opAt F6.o9 10 = some (some 93, .binOp .lss 3 (.tmp 89) (.tmp 92) 3, (some (5, true)))) rfl rfl ?_
              refine yS (by kernel_rfl : opAt F6.o9 11 = some (some 94, .pick (.tmp 88) (.tmp 93) (.const (.bool false)), none)) rfl rfl (fun w' hS => val_pick_f rfl rfl) ?_
              exact Sch.nil (hcut _ _ _ (Stp.refl _ _ _) rfl (eq_bool (decide_eq_false (fun e => hI e.1)).symm) (sub_skip rfl (sub_skip rfl (sub_skip rfl (sub_skip rfl (sub_skip rfl (sub_skip rfl (sub_skip rfl (sub_skip rfl (sub_skip rfl (sub_skip rfl (sub_skip rfl (sub_skip rfl (Sub.refl _))))))))))))))
          intro w15 hs
          replace hF := hF.st hs
          replace hT := hT.trans hs (by simp)
          replace hL := hL.st hs (by first | decide | (simp <;> omega))
          replace hd := hd.st hs (by first | decide | (simp <;> omega)) (by first | decide | (simp <;> omega))
          replace hx := hx.st hs (by first | decide | (simp <;> omega))
          replace ga := ga.st hs (by first | decide | (simp <;> omega))
          replace gb := gb.st hs (by first | decide | (simp <;> omega))
          refine run_if (x := F6.c38) (y := F6.c39) (o := .tmp 94) (by kernel_rfl) rfl (fun h94 => ?_) (fun h94 => ?_)
          · skip
            obtain ⟨hia, hib⟩ := h94
            have hta := hsa _ (List.getElem_mem hia)
            have htb := hsb _ (List.getElem_mem hib)
            refine run_skip (by kernel_rfl) ?_
            refine run_seq (x := F6.c41) (y := F6.c53) (by kernel_rfl) ?_
            refine run_block (x := F6.c42) (id := 3) (by kernel_rfl) ?_
            refine run_seq (x := F6.c43) (y := F6.c44) (by kernel_rfl) ?_
            refine run_draw (id := 11) (ops := F6.o11) [] (C2) [(0, true), (1, true), (2, true), (3, true), (4, true), (5, true), (6, true), (7, true), (8, true), (9, true), (10, false), (11, true), (12, true), (13, true), (14, true), (15, true)] Try_mixed (by kernel_rfl) (by kernel_rfl) (by kernel_rfl) ?_
            intro w16 hs
            replace hF := hF.st hs
            replace hT := hT.trans hs (by simp)
            replace hL := hL.st hs (by first | decide | (simp <;> omega))
            replace hd := hd.st hs (by first | decide | (simp <;> omega)) (by first | decide | (simp <;> omega))
            replace hx := hx.st hs (by first | decide | (simp <;> omega))
            replace ga := ga.st hs (by first | decide | (simp <;> omega))
            replace gb := gb.st hs (by first | decide | (simp <;> omega))
            have hR := Stp.refl [] w16 (C2)
            refine yS (by kernel_rfl : opAt F6.o11 0 = some (some 98, .indexAddr 46 (.tmp 12) (.const (.int .i64 0)), none)) rfl rfl (fun w' hS => val_indexArr (n := 1) (o' := 0) Try.underlying46 (by kernel_rfl) rfl rfl (by decide) (by decide) rfl) ?_
            refine yS (by kernel_rfl : opAt F6.o11 1 = some (some 99, .load 28 (.tmp 98), none)) rfl rfl (fun w' hS => val_loadOwn (hx.stay hS (by decide)) (by kernel_rfl) rfl rfl) ?_
            refine yS (by kernel_rfl : opAt F6.o11 2 = some (some 100, .move (.tmp 13), none)) rfl rfl (fun w' hS => val_move rfl) ?_
            refine iS (e := 39) (by kernel_rfl : opAt F6.o11 3 = some (some 101, .indexAddr 28 (.tmp 99) (.tmp 100), none)) rfl rfl ga rfl (by kernel_rfl) rfl (by omega) (by omega) ?_
            intro b101 o101 h101
            try simp only [Int.toNat_natCast] at h101
            refine lS (by kernel_rfl : opAt F6.o11 4 = some (some 102, .load 39 (.tmp 101), none)) rfl rfl (fun w' hS => h101.stay hS (by first | decide | (simp <;> omega))) h101 (by kernel_rfl) rfl rfl ?_
            intro v102 g102
            refine yS (by kernel_rfl : opAt F6.o11 5 = some (some 103, .indexAddr 46 (.tmp 12) (.const (.int .i64 1)), none)) rfl rfl (fun w' hS => val_indexArr (n := 1) (o' := 1) Try.underlying46 (by kernel_rfl) rfl rfl (by decide) (by decide) rfl) ?_
            refine yS (by kernel_rfl : opAt F6.o11 6 = some (some 104, .load 28 (.tmp 103), none)) rfl rfl (fun w' hS => val_loadOwn (hx.stay hS (by decide)) (by kernel_rfl) rfl rfl) ?_
            refine yS (by kernel_rfl : opAt F6.o11 7 = some (some 105, .move (.tmp 13), none)) rfl rfl (fun w' hS => val_move rfl) ?_
            refine iS (e := 39) (by kernel_rfl : opAt F6.o11 8 = some (some 106, .indexAddr 28 (.tmp 104) (.tmp 105), none)) rfl rfl gb rfl (by kernel_rfl) rfl (by omega) (by omega) ?_
            intro b106 o106 h106
            try simp only [Int.toNat_natCast] at h106
            refine lS (by kernel_rfl : opAt F6.o11 9 = some (some 107, .load 39 (.tmp 106), none)) rfl rfl (fun w' hS => h106.stay hS (by first | decide | (simp <;> omega))) h106 (by kernel_rfl) rfl rfl ?_
            intro v107 g107
            refine cS (by kernel_rfl : opAt F6.o11 10 = some (some 108, .call { callee := .value (.func 18), args := #[(.tmp 102), (.tmp 107)], argTypes := #[39, 39] }, none)) rfl rfl (ent Try.call18 rfl) (count_ok hF g102 g107 hta htb) ?_
            rintro vw17 w17 ⟨rfl, hs⟩
            refine ⟨(hR.trans hs (by simp)).ext, ?_⟩
            replace hF := hF.st hs
            replace hT := hT.trans hs (by simp)
            replace hL := hL.st hs (by first | decide | (simp <;> omega))
            replace hd := hd.st hs (by first | decide | (simp <;> omega)) (by first | decide | (simp <;> omega))
            replace hx := hx.st hs (by first | decide | (simp <;> omega))
            replace ga := ga.st hs (by first | decide | (simp <;> omega))
            replace gb := gb.st hs (by first | decide | (simp <;> omega))
            replace hR := hR.trans hs (by simp)
            replace h101 := h101.st hs (by first | decide | (simp <;> omega))
            replace g102 := g102.st hs (by first | decide | (simp <;> omega))
            replace h106 := h106.st hs (by first | decide | (simp <;> omega))
            replace g107 := g107.st hs (by first | decide | (simp <;> omega))
            refine yS (by kernel_rfl : opAt F6.o11 11 = some (some 97, .move (.tmp 108), none)) rfl rfl (fun w' hS => val_move rfl) ?_
            refine yS (by kernel_rfl : opAt F6.o11 12 = some (some 109, .extract (.tmp 97) 0, none)) rfl rfl (fun w' hS => val_extract rfl rfl) ?_
            refine yS (by kernel_rfl : opAt F6.o11 13 = some (some 110, .extract (.tmp 97) 1, none)) rfl rfl (fun w' hS => val_extract rfl rfl) ?_
            refine yS (by kernel_rfl : opAt F6.o11 14 = some (some 14, .assign (.tmp 109), none)) rfl rfl (fun w' hS => val_assign rfl) ?_
            refine yS (by kernel_rfl : opAt F6.o11 15 = some (some 15, .assign (.tmp 110), none)) rfl rfl (fun w' hS => val_assign rfl) ?_
            refine Sch.nil ?_
            refine run_seq (x := F6.c45) (y := F6.c46) (by kernel_rfl) ?_
            refine run_draw (id := 12) (ops := F6.o12) [] (C2) [(0, true), (1, true), (2, true), (3, true), (4, true), (5, true), (6, true), (7, true), (8, true), (9, true), (10, false), (11, true), (12, true), (13, true), (14, true), (15, true)] Try_mixed (by kernel_rfl) (by kernel_rfl) (by kernel_rfl) ?_
            intro w18 hs
            replace hF := hF.st hs
            replace hT := hT.trans hs (by simp)
            replace hL := hL.st hs (by first | decide | (simp <;> omega))
            replace hd := hd.st hs (by first | decide | (simp <;> omega)) (by first | decide | (simp <;> omega))
            replace hx := hx.st hs (by first | decide | (simp <;> omega))
            replace ga := ga.st hs (by first | decide | (simp <;> omega))
            replace gb := gb.st hs (by first | decide | (simp <;> omega))
            replace h101 := h101.st hs (by first | decide | (simp <;> omega))
            replace g102 := g102.st hs (by first | decide | (simp <;> omega))
            replace h106 := h106.st hs (by first | decide | (simp <;> omega))
            replace g107 := g107.st hs (by first | decide | (simp <;> omega))
            have hR := Stp.refl [] w18 (C2)
            refine yS (by kernel_rfl : opAt F6.o12 0 = some (some 112, .indexAddr 46 (.tmp 12) (.const (.int .i64 0)), none)) rfl rfl (fun w' hS => val_indexArr (n := 1) (o' := 0) Try.underlying46 (by kernel_rfl) rfl rfl (by decide) (by decide) rfl) ?_
            refine yS (by kernel_rfl : opAt F6.o12 1 = some (some 113, .load 28 (.tmp 112), none)) rfl rfl (fun w' hS => val_loadOwn (hx.stay hS (by decide)) (by kernel_rfl) rfl rfl) ?_
            refine yS (by kernel_rfl : opAt F6.o12 2 = some (some 114, .move (.tmp 13), none)) rfl rfl (fun w' hS => val_move rfl) ?_
            refine iS (e := 39) (by kernel_rfl : opAt F6.o12 3 = some (some 115, .indexAddr 28 (.tmp 113) (.tmp 114), none)) rfl rfl ga rfl (by kernel_rfl) rfl (by omega) (by omega) ?_
            intro b115 o115 h115
            try simp only [Int.toNat_natCast] at h115
            refine lS (by kernel_rfl : opAt F6.o12 4 = some (some 116, .load 39 (.tmp 115), none)) rfl rfl (fun w' hS => h115.stay hS (by first | decide | (simp <;> omega))) h115 (by kernel_rfl) rfl rfl ?_
            intro v116 g116
            refine yS (by kernel_rfl : opAt F6.o12 5 = some (some 117, .indexAddr 46 (.tmp 12) (.const (.int .i64 1)), none)) rfl rfl (fun w' hS => val_indexArr (n := 1) (o' := 1) Try.underlying46 (by kernel_rfl) rfl rfl (by decide) (by decide) rfl) ?_
            refine yS (by kernel_rfl : opAt F6.o12 6 = some (some 118, .load 28 (.tmp 117), none)) rfl rfl (fun w' hS => val_loadOwn (hx.stay hS (by decide)) (by kernel_rfl) rfl rfl) ?_
            refine yS (by kernel_rfl : opAt F6.o12 7 = some (some 119, .move (.tmp 13), none)) rfl rfl (fun w' hS => val_move rfl) ?_
            refine iS (e := 39) (by kernel_rfl : opAt F6.o12 8 = some (some 120, .indexAddr 28 (.tmp 118) (.tmp 119), none)) rfl rfl gb rfl (by kernel_rfl) rfl (by omega) (by omega) ?_
            intro b120 o120 h120
            try simp only [Int.toNat_natCast] at h120
            refine lS (by kernel_rfl : opAt F6.o12 9 = some (some 121, .load 39 (.tmp 120), none)) rfl rfl (fun w' hS => h120.stay hS (by first | decide | (simp <;> omega))) h120 (by kernel_rfl) rfl rfl ?_
            intro v121 g121
            refine cS (by kernel_rfl : opAt F6.o12 10 = some (some 122, .call { callee := .value (.func 20), args := #[(.tmp 116), (.tmp 121)], argTypes := #[39, 39] }, none)) rfl rfl (ent Try.call20 rfl) (rcount_ok hF g116 g121) ?_
            rintro vw19 w19 ⟨rfl, hs⟩
            refine ⟨(hR.trans hs (by simp)).ext, ?_⟩
            replace hF := hF.st hs
            replace hT := hT.trans hs (by simp)
            replace hL := hL.st hs (by first | decide | (simp <;> omega))
            replace hd := hd.st hs (by first | decide | (simp <;> omega)) (by first | decide | (simp <;> omega))
            replace hx := hx.st hs (by first | decide | (simp <;> omega))
            replace ga := ga.st hs (by first | decide | (simp <;> omega))
            replace gb := gb.st hs (by first | decide | (simp <;> omega))
            replace h101 := h101.st hs (by first | decide | (simp <;> omega))
            replace g102 := g102.st hs (by first | decide | (simp <;> omega))
            replace h106 := h106.st hs (by first | decide | (simp <;> omega))
            replace g107 := g107.st hs (by first | decide | (simp <;> omega))
            replace hR := hR.trans hs (by simp)
            replace h115 := h115.st hs (by first | decide | (simp <;> omega))
            replace g116 := g116.st hs (by first | decide | (simp <;> omega))
            replace h120 := h120.st hs (by first | decide | (simp <;> omega))
            replace g121 := g121.st hs (by first | decide | (simp <;> omega))
            refine yS (by kernel_rfl : opAt F6.o12 11 = some (some 111, .move (.tmp 122), none)) rfl rfl (fun w' hS => val_move rfl) ?_
            refine yS (by kernel_rfl : opAt F6.o12 12 = some (some 123, .extract (.tmp 111) 0, none)) rfl rfl (fun w' hS => val_extract rfl rfl) ?_
            refine yS (by kernel_rfl : opAt F6.o12 13 = some (some 124, .extract (.tmp 111) 1, none)) rfl rfl (fun w' hS => val_extract rfl rfl) ?_
            refine yS (by kernel_rfl : opAt F6.o12 14 = some (some 16, .assign (.tmp 123), none)) rfl rfl (fun w' hS => val_assign rfl) ?_
            refine yS (by kernel_rfl : opAt F6.o12 15 = some (some 17, .assign (.tmp 124), none)) rfl rfl (fun w' hS => val_assign rfl) ?_
            refine Sch.nil ?_
            refine run_seq (x := F6.c47) (y := F6.c48) (by kernel_rfl) ?_
            refine run_draw (id := 13) (ops := F6.o13) [] (C2) [(0, true), (1, true), (2, true), (3, true), (4, true), (5, true), (6, true), (7, true), (8, true), (9, true), (10, true), (11, true), (12, true), (13, true), (15, true), (16, true), (17, true), (18, true), (19, true), (14, false), (20, false), (21, true), (22, true)] Try_mixed (by kernel_rfl) (by kernel_rfl) (by kernel_rfl) ?_
            intro w20 hs
            replace hF := hF.st hs
            replace hT := hT.trans hs (by simp)
            replace hL := hL.st hs (by first | decide | (simp <;> omega))
            replace hd := hd.st hs (by first | decide | (simp <;> omega)) (by first | decide | (simp <;> omega))
            replace hx := hx.st hs (by first | decide | (simp <;> omega))
            replace ga := ga.st hs (by first | decide | (simp <;> omega))
            replace gb := gb.st hs (by first | decide | (simp <;> omega))
            replace h101 := h101.st hs (by first | decide | (simp <;> omega))
            replace g102 := g102.st hs (by first | decide | (simp <;> omega))
            replace h106 := h106.st hs (by first | decide | (simp <;> omega))
            replace g107 := g107.st hs (by first | decide | (simp <;> omega))
            replace h115 := h115.st hs (by first | decide | (simp <;> omega))
            replace g116 := g116.st hs (by first | decide | (simp <;> omega))
            replace h120 := h120.st hs (by first | decide | (simp <;> omega))
            replace g121 := g121.st hs (by first | decide | (simp <;> omega))
            have hR := Stp.refl [] w20 (C2)
            refine yS (by kernel_rfl : opAt F6.o13 0 = some (some 125, .move (.tmp 14), none)) rfl rfl (fun w' hS => val_move rfl) ?_
            refine yS (by kernel_rfl : opAt F6.o13 1 = some (some 126, .move (.tmp 16), none)) rfl rfl (fun w' hS => val_move rfl) ?_
            refine yS (by kernel_rfl : opAt F6.o13 2 = some (some 127, .binOp .neq 3 (.tmp 125) (.tmp 126) 3, none)) rfl rfl (fun w' hS => val_F (val_neq rfl rfl) (fun h => h rfl)) ?_
            refine yS (by kernel_rfl : opAt F6.o13 3 = some (some 128, .move (.tmp 127), none)) rfl rfl (fun w' hS => val_move rfl) ?_
            refine yS (by kernel_rfl : opAt F6.o13 4 = some (some 129, .move (.tmp 15), (some (3, false)))) rfl rfl (fun w' hS => val_move rfl) ?_
            refine yS (by kernel_rfl : opAt F6.o13 5 = some (some 130, .move (.tmp 17), (some (3, false)))) rfl rfl (fun w' hS => val_move rfl) ?_
            refine yS (by kernel_rfl : opAt F6.o13 6 = some (some 131, .binOp .neq 31 (.tmp 129) (.tmp 130) 31, (some (3, false)))) rfl rfl (fun w' hS => val_F (val_neq rfl rfl) (fun h => h rfl)) ?_
            refine yS (by kernel_rfl : opAt F6.o13 7 = some (some 132, .pick (.tmp 128) (.const (.bool true)) (.tmp 131), none)) rfl rfl (fun w' hS => val_pick_f rfl rfl) ?_
            refine yS (by kernel_rfl : opAt F6.o13 8 = some (some 133, .move (.tmp 132), none)) rfl rfl (fun w' hS => val_move rfl) ?_
            refine yS (by kernel_rfl : opAt F6.o13 9 = some (some 134, .indexAddr 46 (.tmp 12) (.const (.int .i64 0)), (some (8, false)))) rfl rfl (fun w' hS => val_indexArr (n := 1) (o' := 0) Try.underlying46 (by kernel_rfl) rfl rfl (by decide) (by decide) rfl) ?_
            refine yS (by kernel_rfl : opAt F6.o13 10 = some (some 135, .load 28 (.tmp 134), (some (8, false)))) rfl rfl (fun w' hS => val_loadOwn (hx.stay hS (by decide)) (by kernel_rfl) rfl rfl) ?_
            refine yS (by kernel_rfl : opAt F6.o13 11 = some (some 136, .move (.tmp 13), (some (8, false)))) rfl rfl (fun w' hS => val_move rfl) ?_
            refine iS (e := 39) (by kernel_rfl : opAt F6.o13 12 = some (some 137, .indexAddr 28 (.tmp 135) (.tmp 136), (some (8, false)))) rfl rfl ga rfl (by kernel_rfl) rfl (by omega) (by omega) ?_
            intro b137 o137 h137
            try simp only [Int.toNat_natCast] at h137
            refine lS (by kernel_rfl : opAt F6.o13 13 = some (some 138, .load 39 (.tmp 137), (some (8, false)))) rfl rfl (fun w' hS => h137.stay hS (by first | decide | (simp <;> omega))) h137 (by kernel_rfl) rfl rfl ?_
            intro v138 g138
            refine yS (by kernel_rfl : opAt F6.o13 15 = some (some 140, .indexAddr 46 (.tmp 12) (.const (.int .i64 0)), (some (8, false)))) rfl rfl (fun w' hS => val_indexArr (n := 1) (o' := 0) Try.underlying46 (by kernel_rfl) rfl rfl (by decide) (by decide) rfl) ?_
            refine yS (by kernel_rfl : opAt F6.o13 16 = some (some 141, .load 28 (.tmp 140), (some (8, false)))) rfl rfl (fun w' hS => val_loadOwn (hx.stay hS (by decide)) (by kernel_rfl) rfl rfl) ?_
            refine yS (by kernel_rfl : opAt F6.o13 17 = some (some 142, .move (.tmp 13), (some (8, false)))) rfl rfl (fun w' hS => val_move rfl) ?_
            refine iS (e := 39) (by kernel_rfl : opAt F6.o13 18 = some (some 143, .indexAddr 28 (.tmp 141) (.tmp 142), (some (8, false)))) rfl rfl ga rfl (by kernel_rfl) rfl (by omega) (by omega) ?_
            intro b143 o143 h143
            try simp only [Int.toNat_natCast] at h143
            refine lS (by kernel_rfl : opAt F6.o13 19 = some (some 144, .load 39 (.tmp 143), (some (8, false)))) rfl rfl (fun w' hS => h143.stay hS (by first | decide | (simp <;> omega))) h143 (by kernel_rfl) rfl rfl ?_
            intro v144 g144
            refine cS (by kernel_rfl : opAt F6.o13 14 = some (some 139, .call { callee := .value (.func 21), args := #[(.tmp 138)], argTypes := #[39] }, (some (8, false)))) rfl rfl (ent Try.call21 rfl) (check_ok hF g138 hta) ?_
            rintro vw21 w21 ⟨rfl, hs⟩
            refine ⟨(hR.trans hs (by simp)).ext, ?_⟩
            replace hF := hF.st hs
            replace hT := hT.trans hs (by simp)
            replace hL := hL.st hs (by first | decide | (simp <;> omega))
            replace hd := hd.st hs (by first | decide | (simp <;> omega)) (by first | decide | (simp <;> omega))
            replace hx := hx.st hs (by first | decide | (simp <;> omega))
            replace ga := ga.st hs (by first | decide | (simp <;> omega))
            replace gb := gb.st hs (by first | decide | (simp <;> omega))
            replace h101 := h101.st hs (by first | decide | (simp <;> omega))
            replace g102 := g102.st hs (by first | decide | (simp <;> omega))
            replace h106 := h106.st hs (by first | decide | (simp <;> omega))
            replace g107 := g107.st hs (by first | decide | (simp <;> omega))
            replace h115 := h115.st hs (by first | decide | (simp <;> omega))
            replace g116 := g116.st hs (by first | decide | (simp <;> omega))
            replace h120 := h120.st hs (by first | decide | (simp <;> omega))
            replace g121 := g121.st hs (by first | decide | (simp <;> omega))
            replace hR := hR.trans hs (by simp)
            replace h137 := h137.st hs (by first | decide | (simp <;> omega))
            replace g138 := g138.st hs (by first | decide | (simp <;> omega))
            replace h143 := h143.st hs (by first | decide | (simp <;> omega))
            replace g144 := g144.st hs (by first | decide | (simp <;> omega))
            refine cS (by kernel_rfl : opAt F6.o13 20 = some (some 145, .call { callee := .value (.func 22), args := #[(.tmp 144)], argTypes := #[39] }, (some (8, false)))) rfl rfl (ent Try.call22 rfl) (rcheck_ok hF g144) ?_
            rintro vw22 w22 ⟨rfl, hs⟩
            refine ⟨(hR.trans hs (by simp)).ext, ?_⟩
            replace hF := hF.st hs
            replace hT := hT.trans hs (by simp)
            replace hL := hL.st hs (by first | decide | (simp <;> omega))
            replace hd := hd.st hs (by first | decide | (simp <;> omega)) (by first | decide | (simp <;> omega))
            replace hx := hx.st hs (by first | decide | (simp <;> omega))
            replace ga := ga.st hs (by first | decide | (simp <;> omega))
            replace gb := gb.st hs (by first | decide | (simp <;> omega))
            replace h101 := h101.st hs (by first | decide | (simp <;> omega))
            replace g102 := g102.st hs (by first | decide | (simp <;> omega))
            replace h106 := h106.st hs (by first | decide | (simp <;> omega))
            replace g107 := g107.st hs (by first | decide | (simp <;> omega))
            replace h115 := h115.st hs (by first | decide | (simp <;> omega))
            replace g116 := g116.st hs (by first | decide | (simp <;> omega))
            replace h120 := h120.st hs (by first | decide | (simp <;> omega))
            replace g121 := g121.st hs (by first | decide | (simp <;> omega))
            replace hR := hR.trans hs (by simp)
            replace h137 := h137.st hs (by first | decide | (simp <;> omega))
            replace g138 := g138.st hs (by first | decide | (simp <;> omega))
            replace h143 := h143.st hs (by first | decide | (simp <;> omega))
            replace g144 := g144.st hs (by first | decide | (simp <;> omega))
            refine yS (by kernel_rfl : opAt F6.o13 21 = some (some 146, .binOp .neq 31 (.tmp 139) (.tmp 145) 31, (some (8, false)))) rfl rfl (fun w' hS => val_F (val_neq rfl rfl) (fun h => h rfl)) ?_
            refine yS (by kernel_rfl : opAt F6.o13 22 = some (some 147, .pick (.tmp 133) (.const (.bool true)) (.tmp 146), none)) rfl rfl (fun w' hS => val_pick_f rfl rfl) ?_
            refine Sch.nil ?_
            refine run_cond (x := F6.c49) (y := F6.c52) (o := .tmp 147) (b := false) (by kernel_rfl) rfl (fun h => by cases h) (fun _ => ?_)
            refine run_skip (by kernel_rfl) ?_
            refine run_inBlock ?_
            refine run_plain (id := 10) (ops := F6.o10) [(0, true), (1, true), (2, true)] (by kernel_rfl) (by kernel_rfl) ?_
            refine yS (by kernel_rfl : opAt F6.o10 0 = some (some 95, .move (.tmp 13), none)) rfl rfl (fun w' hS => val_move rfl) ?_
            refine yS (by kernel_rfl : opAt F6.o10 1 = some (some 96, .binOp .add 3 (.tmp 95) (.const (.int .i64 1)) 3, none)) rfl rfl (fun w' hS => val_addi rfl rfl (by omega) (by omega)) ?_
            refine yS (by kernel_rfl : opAt F6.o10 2 = some (some 13, .assign (.tmp 96), none)) rfl rfl (fun w' hS => val_assign rfl) ?_
            refine Sch.nil ?_
            refine kp (sub_cons 3 rfl rfl (sub_cons 9 rfl rfl (sub_cons 12 rfl rfl (sub_cons 13 rfl (eq_int (by simp)) (sub_cons 77 rfl rfl (sub_cons 78 rfl rfl (sub_cons 79 rfl rfl (sub_nil _)))))))) (next2 (i + 1, C2) _ ⟨(by first | omega | (simp only; omega)), hF, hT, hL, hd, hx, ga, gb⟩ (by first | omega | (simp only; omega)))
          · skip
            refine run_exit (id := 2) (by kernel_rfl) rfl ?_
            refine run_seq (x := F6.c55) (y := F6.c89) (by kernel_rfl) ?_
            refine run_seq (x := F6.c56) (y := F6.c57) (by kernel_rfl) ?_
            refine run_plain (id := 15) (ops := F6.o15) [(0, true), (1, true), (2, false), (3, false), (4, true), (5, true)] (by kernel_rfl) (by kernel_rfl) ?_
            refine yS (by kernel_rfl : opAt F6.o15 0 = some (some 148, .move (.tmp 3), none)) rfl rfl (fun w' hS => val_move rfl) ?_
            refine yS (by kernel_rfl : opAt F6.o15 1 = some (some 149, .move (.tmp 9), none)) rfl rfl (fun w' hS => val_move rfl) ?_
            refine cS (by kernel_rfl : opAt F6.o15 2 = some (some 150, .call { callee := .value (.func 11), args := #[(.tmp 149), (.const (.int .i64 9))], argTypes := #[25, 3] }, none)) rfl rfl (ent Try.call11 rfl) (next_any (n := 9) hF (by decide) hd (by omega) (by omega)) ?_
            rintro vw23 w23 ⟨m9, rfl, hm9, hs, hd⟩
            refine ⟨trivial, ?_⟩
            replace hF := hF.st hs
            replace hT := hT.trans hs (by simp)
            replace hL := hL.st hs (by first | decide | (simp <;> omega))
            replace hx := hx.st hs (by first | decide | (simp <;> omega))
            replace ga := ga.st hs (by first | decide | (simp <;> omega))
            replace gb := gb.st hs (by first | decide | (simp <;> omega))
            refine aS (by kernel_rfl : opAt F6.o15 3 = some (some 151, .buildSlice 22 3 #[(0, (.tmp 148)), (1, (.tmp 150)), (2, (.const (.int .i64 0)))], none)) rfl rfl (a_buildSlice (ys := ([mask, (m9 : Int), 0] : List Int)) (e := 3) (bytes := 8) hF (by kernel_rfl) rfl (by decide) (by decide) ⟨rfl, ⟨_, rfl, rv_int.2 rfl⟩, rfl, ⟨_, rfl, rv_int.2 rfl⟩, rfl, ⟨_, rfl, rv_int.2 rfl⟩, trivial⟩) ?_
            rintro v151 w24 ⟨hs, hms, hF⟩
            refine ⟨trivial, ?_⟩
            replace hT := hT.trans hs (by simp)
            replace hL := hL.st hs (by first | decide | (simp <;> omega))
            replace hd := hd.st hs (by first | decide | (simp <;> omega)) (by first | decide | (simp <;> omega))
            replace hx := hx.st hs (by first | decide | (simp <;> omega))
            replace ga := ga.st hs (by first | decide | (simp <;> omega))
            replace gb := gb.st hs (by first | decide | (simp <;> omega))
            obtain ⟨ms, hme⟩ : ∃ ms : List Int, ms = [mask, (m9 : Int), 0] := ⟨_, rfl⟩
            rw [← hme] at hms
            have hm3 : ms.length = 3 := by rw [hme]; rfl
            refine yS (by kernel_rfl : opAt F6.o15 4 = some (some 152, .call { callee := .builtin .len, args := #[(.tmp 151)], argTypes := #[22] }, none)) rfl rfl (fun w' hS => hms.lenV rfl Try.underlying22 w' ) ?_
            refine yS (by kernel_rfl : opAt F6.o15 5 = some (some 153, .move (.const (.int .i64 0)), none)) rfl rfl (fun w' hS => val_move rfl) ?_
            refine Sch.nil ?_
            refine run_block (x := F6.c58) (id := 4) (by kernel_rfl) ?_
            
            refine run_loop (ι := Nat × (Nat → Nat)) (I := fun x w => x.1 ≤ ms.length ∧ Lim w x.2 ∧ Stp [2, 3, 4, 5, 6, 7, 8, 9] w₀ (col1 C) w x.2 ∧ RV w (Mc x.2) L v77 ∧ DeckIs w x.2 3 bd ∧ OwnB w x.2 4 bw12 (.cells [u1, u2].toArray 46) ∧ RV w (Mc x.2) a u1 ∧ RV w (Mc x.2) b u2 ∧ RV w (Mc x.2) ms v151) (e := fun x => [(3, .int .i64 mask), (9, .pointer (some ⟨bd, 0, none⟩)), (12, .pointer (some ⟨bw12, 0, none⟩)), (77, v77), (78, .int .i64 L.length), (79, .int .i64 j), (151, v151), (152, .int .i64 ms.length), (153, .int .i64 x.1)]) (m := fun x => ms.length - x.1) (x₀ := (0, C2)) (body := F6.c59) (by kernel_rfl) (sub_cons 3 rfl rfl (sub_cons 9 rfl rfl (sub_cons 12 rfl rfl (sub_cons 77 rfl rfl (sub_cons 78 rfl rfl (sub_cons 79 rfl rfl (sub_cons 151 rfl rfl (sub_cons 152 rfl rfl (sub_cons 153 rfl rfl (sub_nil _)))))))))) ?_ ?_
            · exact ⟨Nat.zero_le _, hF, hT, hL, hd, hx, ga, gb, hms⟩
            intro ⟨q, C3⟩ w25 hI next
            obtain ⟨hq, hF, hT, hL, hd, hx, ga, gb, hms⟩ := hI
            try simp only at hq hF hT hL hd hx ga gb hms
            have next3 := next
            clear next
            show Run _ _ _ _ [(3, .int .i64 mask), (9, .pointer (some ⟨bd, 0, none⟩)), (12, .pointer (some ⟨bw12, 0, none⟩)), (77, v77), (78, .int .i64 L.length), (79, .int .i64 j), (151, v151), (152, .int .i64 ms.length), (153, .int .i64 q)] _ _
            refine run_seq (x := F6.c60) (y := F6.c61) (by kernel_rfl) ?_
            refine run_plain (id := 16) (ops := F6.o16) [(0, true)] (by kernel_rfl) (by kernel_rfl) ?_
            refine yS (by kernel_rfl : opAt F6.o16 0 = some (some 154, .binOp .lss 3 (.tmp 153) (.tmp 152) 3, none)) rfl rfl (fun w' hS => val_lss rfl rfl) ?_
            refine Sch.nil ?_
            refine run_seq (x := F6.c62) (y := F6.c65) (by kernel_rfl) ?_
            refine run_if (x := F6.c63) (y := F6.c64) (o := .tmp 154) (by kernel_rfl) rfl (fun h154 => ?_) (fun h154 => ?_)
            · skip
              have hql : q < ms.length := by omega
              refine run_skip (by kernel_rfl) ?_
              refine run_seq (x := F6.c66) (y := F6.c88) (by kernel_rfl) ?_
              refine run_block (x := F6.c67) (id := 5) (by kernel_rfl) ?_
              refine run_seq (x := F6.c68) (y := F6.c69) (by kernel_rfl) ?_
              refine run_plain (id := 17) (ops := F6.o17) [(0, true), (1, false), (2, true)] (by kernel_rfl) (by kernel_rfl) ?_
              refine iS (e := 3) (by kernel_rfl : opAt F6.o17 0 = some (some 155, .indexAddr 22 (.tmp 151) (.tmp 153), none)) rfl rfl hms rfl (by kernel_rfl) rfl (by omega) (by omega) ?_
              intro b155 o155 h155
              try simp only [Int.toNat_natCast] at h155
              refine lN (by kernel_rfl : opAt F6.o17 1 = some (some 156, .load 3 (.tmp 155), none)) rfl rfl trivial h155 (by kernel_rfl) rfl rfl ?_
              intro v156 g156
              first | (obtain rfl := rv_nat.1 g156) | (obtain rfl := rv_int.1 g156)
              refine yS (by kernel_rfl : opAt F6.o17 2 = some (some 19, .assign (.tmp 156), none)) rfl rfl (fun w' hS => val_assign rfl) ?_
              refine Sch.nil ?_
              refine run_seq (x := F6.c70) (y := F6.c71) (by kernel_rfl) ?_
              refine run_plain (id := 18) (ops := F6.o18) [(0, true), (1, false), (2, true), (3, false), (4, true), (5, false), (6, true), (7, true), (8, true), (9, true), (10, true)] (by kernel_rfl) (by kernel_rfl) ?_
              refine yS (by kernel_rfl : opAt F6.o18 0 = some (some 158, .indexAddr 46 (.tmp 12) (.const (.int .i64 0)), none)) rfl rfl (fun w' hS => val_indexArr (n := 1) (o' := 0) Try.underlying46 (by kernel_rfl) rfl rfl (by decide) (by decide) rfl) ?_
              refine nS (by kernel_rfl : opAt F6.o18 1 = some (some 159, .load 28 (.tmp 158), none)) rfl rfl trivial (val_loadOwn hx.at_ (by kernel_rfl) rfl rfl) ?_
              refine yS (by kernel_rfl : opAt F6.o18 2 = some (some 160, .indexAddr 46 (.tmp 12) (.const (.int .i64 1)), none)) rfl rfl (fun w' hS => val_indexArr (n := 1) (o' := 1) Try.underlying46 (by kernel_rfl) rfl rfl (by decide) (by decide) rfl) ?_
              refine nS (by kernel_rfl : opAt F6.o18 3 = some (some 161, .load 28 (.tmp 160), none)) rfl rfl trivial (val_loadOwn hx.at_ (by kernel_rfl) rfl rfl) ?_
              refine yS (by kernel_rfl : opAt F6.o18 4 = some (some 162, .move (.tmp 19), none)) rfl rfl (fun w' hS => val_move rfl) ?_
              refine cS (by kernel_rfl : opAt F6.o18 5 = some (some 163, .call { callee := .value (.func 16), args := #[(.tmp 159), (.tmp 161), (.tmp 162)], argTypes := #[28, 28, 3] }, none)) rfl rfl (ent Try.call16 rfl) (agreeing_ok hF ga gb hsa hsb) ?_
              rintro vw26 w26 ⟨rfl, hs⟩
              refine ⟨trivial, ?_⟩
              replace hF := hF.st hs
              replace hT := hT.trans hs (by simp)
              replace hL := hL.st hs (by first | decide | (simp <;> omega))
              replace hd := hd.st hs (by first | decide | (simp <;> omega)) (by first | decide | (simp <;> omega))
              replace hx := hx.st hs (by first | decide | (simp <;> omega))
              replace ga := ga.st hs (by first | decide | (simp <;> omega))
              replace gb := gb.st hs (by first | decide | (simp <;> omega))
              replace hms := hms.st hs (by first | decide | (simp <;> omega))
              replace h155 := h155.st hs (by first | decide | (simp <;> omega))
              refine yS (by kernel_rfl : opAt F6.o18 6 = some (some 157, .move (.tmp 163), none)) rfl rfl (fun w' hS => val_move rfl) ?_
              refine yS (by kernel_rfl : opAt F6.o18 7 = some (some 164, .extract (.tmp 157) 0, none)) rfl rfl (fun w' hS => val_extract rfl rfl) ?_
              refine yS (by kernel_rfl : opAt F6.o18 8 = some (some 165, .extract (.tmp 157) 1, none)) rfl rfl (fun w' hS => val_extract rfl rfl) ?_
              refine yS (by kernel_rfl : opAt F6.o18 9 = some (some 20, .assign (.tmp 164), none)) rfl rfl (fun w' hS => val_assign rfl) ?_
              refine yS (by kernel_rfl : opAt F6.o18 10 = some (some 21, .assign (.tmp 165), none)) rfl rfl (fun w' hS => val_assign rfl) ?_
              refine Sch.nil ?_
              refine run_seq (x := F6.c72) (y := F6.c73) (by kernel_rfl) ?_
              refine run_plain (id := 19) (ops := F6.o19) [(0, true), (1, false), (2, true), (3, false), (4, true), (5, false), (6, true), (7, true), (8, true), (9, true), (10, true)] (by kernel_rfl) (by kernel_rfl) ?_
              refine yS (by kernel_rfl : opAt F6.o19 0 = some (some 167, .indexAddr 46 (.tmp 12) (.const (.int .i64 0)), none)) rfl rfl (fun w' hS => val_indexArr (n := 1) (o' := 0) Try.underlying46 (by kernel_rfl) rfl rfl (by decide) (by decide) rfl) ?_
              refine nS (by kernel_rfl : opAt F6.o19 1 = some (some 168, .load 28 (.tmp 167), none)) rfl rfl trivial (val_loadOwn hx.at_ (by kernel_rfl) rfl rfl) ?_
              refine yS (by kernel_rfl : opAt F6.o19 2 = some (some 169, .indexAddr 46 (.tmp 12) (.const (.int .i64 1)), none)) rfl rfl (fun w' hS => val_indexArr (n := 1) (o' := 1) Try.underlying46 (by kernel_rfl) rfl rfl (by decide) (by decide) rfl) ?_
              refine nS (by kernel_rfl : opAt F6.o19 3 = some (some 170, .load 28 (.tmp 169), none)) rfl rfl trivial (val_loadOwn hx.at_ (by kernel_rfl) rfl rfl) ?_
              refine yS (by kernel_rfl : opAt F6.o19 4 = some (some 171, .move (.tmp 19), none)) rfl rfl (fun w' hS => val_move rfl) ?_
              refine cS (by kernel_rfl : opAt F6.o19 5 = some (some 172, .call { callee := .value (.func 23), args := #[(.tmp 168), (.tmp 170), (.tmp 171)], argTypes := #[28, 28, 3] }, none)) rfl rfl (ent Try.call23 rfl) (ragreeing_ok hF ga gb _) ?_
              rintro vw27 w27 ⟨rfl, hs⟩
              refine ⟨trivial, ?_⟩
              replace hF := hF.st hs
              replace hT := hT.trans hs (by simp)
              replace hL := hL.st hs (by first | decide | (simp <;> omega))
              replace hd := hd.st hs (by first | decide | (simp <;> omega)) (by first | decide | (simp <;> omega))
              replace hx := hx.st hs (by first | decide | (simp <;> omega))
              replace ga := ga.st hs (by first | decide | (simp <;> omega))
              replace gb := gb.st hs (by first | decide | (simp <;> omega))
              replace hms := hms.st hs (by first | decide | (simp <;> omega))
              replace h155 := h155.st hs (by first | decide | (simp <;> omega))
              refine yS (by kernel_rfl : opAt F6.o19 6 = some (some 166, .move (.tmp 172), none)) rfl rfl (fun w' hS => val_move rfl) ?_
              refine yS (by kernel_rfl : opAt F6.o19 7 = some (some 173, .extract (.tmp 166) 0, none)) rfl rfl (fun w' hS => val_extract rfl rfl) ?_
              refine yS (by kernel_rfl : opAt F6.o19 8 = some (some 174, .extract (.tmp 166) 1, none)) rfl rfl (fun w' hS => val_extract rfl rfl) ?_
              refine yS (by kernel_rfl : opAt F6.o19 9 = some (some 22, .assign (.tmp 173), none)) rfl rfl (fun w' hS => val_assign rfl) ?_
              refine yS (by kernel_rfl : opAt F6.o19 10 = some (some 23, .assign (.tmp 174), none)) rfl rfl (fun w' hS => val_assign rfl) ?_
              refine Sch.nil ?_
              refine run_seq (x := F6.c74) (y := F6.c75) (by kernel_rfl) ?_
              refine run_plain (id := 20) (ops := F6.o20) [(0, true), (1, false), (2, true), (3, false), (4, true), (5, false), (6, true), (7, true), (8, true), (9, true), (10, true)] (by kernel_rfl) (by kernel_rfl) ?_
              refine yS (by kernel_rfl : opAt F6.o20 0 = some (some 176, .indexAddr 46 (.tmp 12) (.const (.int .i64 0)), none)) rfl rfl (fun w' hS => val_indexArr (n := 1) (o' := 0) Try.underlying46 (by kernel_rfl) rfl rfl (by decide) (by decide) rfl) ?_
              refine nS (by kernel_rfl : opAt F6.o20 1 = some (some 177, .load 28 (.tmp 176), none)) rfl rfl trivial (val_loadOwn hx.at_ (by kernel_rfl) rfl rfl) ?_
              refine yS (by kernel_rfl : opAt F6.o20 2 = some (some 178, .indexAddr 46 (.tmp 12) (.const (.int .i64 1)), none)) rfl rfl (fun w' hS => val_indexArr (n := 1) (o' := 1) Try.underlying46 (by kernel_rfl) rfl rfl (by decide) (by decide) rfl) ?_
              refine nS (by kernel_rfl : opAt F6.o20 3 = some (some 179, .load 28 (.tmp 178), none)) rfl rfl trivial (val_loadOwn hx.at_ (by kernel_rfl) rfl rfl) ?_
              refine yS (by kernel_rfl : opAt F6.o20 4 = some (some 180, .move (.tmp 19), none)) rfl rfl (fun w' hS => val_move rfl) ?_
              refine cS (by kernel_rfl : opAt F6.o20 5 = some (some 181, .call { callee := .value (.func 14), args := #[(.tmp 177), (.tmp 179), (.tmp 180)], argTypes := #[28, 28, 3] }, none)) rfl rfl (ent Try.call14 rfl) (union_ok hF ga gb hsa hsb) ?_
              rintro vw28 w28 ⟨rfl, hs⟩
              refine ⟨trivial, ?_⟩
              replace hF := hF.st hs
              replace hT := hT.trans hs (by simp)
              replace hL := hL.st hs (by first | decide | (simp <;> omega))
              replace hd := hd.st hs (by first | decide | (simp <;> omega)) (by first | decide | (simp <;> omega))
              replace hx := hx.st hs (by first | decide | (simp <;> omega))
              replace ga := ga.st hs (by first | decide | (simp <;> omega))
              replace gb := gb.st hs (by first | decide | (simp <;> omega))
              replace hms := hms.st hs (by first | decide | (simp <;> omega))
              replace h155 := h155.st hs (by first | decide | (simp <;> omega))
              refine yS (by kernel_rfl : opAt F6.o20 6 = some (some 175, .move (.tmp 181), none)) rfl rfl (fun w' hS => val_move rfl) ?_
              refine yS (by kernel_rfl : opAt F6.o20 7 = some (some 182, .extract (.tmp 175) 0, none)) rfl rfl (fun w' hS => val_extract rfl rfl) ?_
              refine yS (by kernel_rfl : opAt F6.o20 8 = some (some 183, .extract (.tmp 175) 1, none)) rfl rfl (fun w' hS => val_extract rfl rfl) ?_
              refine yS (by kernel_rfl : opAt F6.o20 9 = some (some 24, .assign (.tmp 182), none)) rfl rfl (fun w' hS => val_assign rfl) ?_
              refine yS (by kernel_rfl : opAt F6.o20 10 = some (some 25, .assign (.tmp 183), none)) rfl rfl (fun w' hS => val_assign rfl) ?_
              refine Sch.nil ?_
              refine run_seq (x := F6.c76) (y := F6.c77) (by kernel_rfl) ?_
              refine run_plain (id := 21) (ops := F6.o21) [(0, true), (1, false), (2, true), (3, false), (4, true), (5, false), (6, true), (7, true), (8, true), (9, true), (10, true)] (by kernel_rfl) (by kernel_rfl) ?_
              refine yS (by kernel_rfl : opAt F6.o21 0 = some (some 185, .indexAddr 46 (.tmp 12) (.const (.int .i64 0)), none)) rfl rfl (fun w' hS => val_indexArr (n := 1) (o' := 0) Try.underlying46 (by kernel_rfl) rfl rfl (by decide) (by decide) rfl) ?_
              refine nS (by kernel_rfl : opAt F6.o21 1 = some (some 186, .load 28 (.tmp 185), none)) rfl rfl trivial (val_loadOwn hx.at_ (by kernel_rfl) rfl rfl) ?_
              refine yS (by kernel_rfl : opAt F6.o21 2 = some (some 187, .indexAddr 46 (.tmp 12) (.const (.int .i64 1)), none)) rfl rfl (fun w' hS => val_indexArr (n := 1) (o' := 1) Try.underlying46 (by kernel_rfl) rfl rfl (by decide) (by decide) rfl) ?_
              refine nS (by kernel_rfl : opAt F6.o21 3 = some (some 188, .load 28 (.tmp 187), none)) rfl rfl trivial (val_loadOwn hx.at_ (by kernel_rfl) rfl rfl) ?_
              refine yS (by kernel_rfl : opAt F6.o21 4 = some (some 189, .move (.tmp 19), none)) rfl rfl (fun w' hS => val_move rfl) ?_
              refine cS (by kernel_rfl : opAt F6.o21 5 = some (some 190, .call { callee := .value (.func 24), args := #[(.tmp 186), (.tmp 188), (.tmp 189)], argTypes := #[28, 28, 3] }, none)) rfl rfl (ent Try.call24 rfl) (runion_ok hF ga gb _) ?_
              rintro vw29 w29 ⟨rfl, hs⟩
              refine ⟨trivial, ?_⟩
              replace hF := hF.st hs
              replace hT := hT.trans hs (by simp)
              replace hL := hL.st hs (by first | decide | (simp <;> omega))
              replace hd := hd.st hs (by first | decide | (simp <;> omega)) (by first | decide | (simp <;> omega))
              replace hx := hx.st hs (by first | decide | (simp <;> omega))
              replace ga := ga.st hs (by first | decide | (simp <;> omega))
              replace gb := gb.st hs (by first | decide | (simp <;> omega))
              replace hms := hms.st hs (by first | decide | (simp <;> omega))
              replace h155 := h155.st hs (by first | decide | (simp <;> omega))
              refine yS (by kernel_rfl : opAt F6.o21 6 = some (some 184, .move (.tmp 190), none)) rfl rfl (fun w' hS => val_move rfl) ?_
              refine yS (by kernel_rfl : opAt F6.o21 7 = some (some 191, .extract (.tmp 184) 0, none)) rfl rfl (fun w' hS => val_extract rfl rfl) ?_
              refine yS (by kernel_rfl : opAt F6.o21 8 = some (some 192, .extract (.tmp 184) 1, none)) rfl rfl (fun w' hS => val_extract rfl rfl) ?_
              refine yS (by kernel_rfl : opAt F6.o21 9 = some (some 26, .assign (.tmp 191), none)) rfl rfl (fun w' hS => val_assign rfl) ?_
              refine yS (by kernel_rfl : opAt F6.o21 10 = some (some 27, .assign (.tmp 192), none)) rfl rfl (fun w' hS => val_assign rfl) ?_
              refine Sch.nil ?_
              refine run_seq (x := F6.c78) (y := F6.c79) (by kernel_rfl) ?_
              refine run_plain (id := 22) (ops := F6.o22) [(0, true), (1, false), (2, true), (3, false), (4, true), (5, false), (6, true), (7, true), (8, true), (9, true), (10, true)] (by kernel_rfl) (by kernel_rfl) ?_
              refine yS (by kernel_rfl : opAt F6.o22 0 = some (some 194, .indexAddr 46 (.tmp 12) (.const (.int .i64 0)), none)) rfl rfl (fun w' hS => val_indexArr (n := 1) (o' := 0) Try.underlying46 (by kernel_rfl) rfl rfl (by decide) (by decide) rfl) ?_
              refine nS (by kernel_rfl : opAt F6.o22 1 = some (some 195, .load 28 (.tmp 194), none)) rfl rfl trivial (val_loadOwn hx.at_ (by kernel_rfl) rfl rfl) ?_
              refine yS (by kernel_rfl : opAt F6.o22 2 = some (some 196, .indexAddr 46 (.tmp 12) (.const (.int .i64 1)), none)) rfl rfl (fun w' hS => val_indexArr (n := 1) (o' := 1) Try.underlying46 (by kernel_rfl) rfl rfl (by decide) (by decide) rfl) ?_
              refine nS (by kernel_rfl : opAt F6.o22 3 = some (some 197, .load 28 (.tmp 196), none)) rfl rfl trivial (val_loadOwn hx.at_ (by kernel_rfl) rfl rfl) ?_
              refine yS (by kernel_rfl : opAt F6.o22 4 = some (some 198, .move (.tmp 19), none)) rfl rfl (fun w' hS => val_move rfl) ?_
              refine cS (by kernel_rfl : opAt F6.o22 5 = some (some 199, .call { callee := .value (.func 13), args := #[(.tmp 195), (.tmp 197), (.tmp 198)], argTypes := #[28, 28, 3] }, none)) rfl rfl (ent Try.call13 rfl) (list_ok hF ga gb hsa hsb) ?_
              rintro vw30 w30 ⟨ul1, rfl, hs, hl1⟩
              refine ⟨trivial, ?_⟩
              replace hF := hF.st hs
              replace hT := hT.trans hs (by simp)
              replace hL := hL.st hs (by first | decide | (simp <;> omega))
              replace hd := hd.st hs (by first | decide | (simp <;> omega)) (by first | decide | (simp <;> omega))
              replace hx := hx.st hs (by first | decide | (simp <;> omega))
              replace ga := ga.st hs (by first | decide | (simp <;> omega))
              replace gb := gb.st hs (by first | decide | (simp <;> omega))
              replace hms := hms.st hs (by first | decide | (simp <;> omega))
              replace h155 := h155.st hs (by first | decide | (simp <;> omega))
              refine yS (by kernel_rfl : opAt F6.o22 6 = some (some 193, .move (.tmp 199), none)) rfl rfl (fun w' hS => val_move rfl) ?_
              refine yS (by kernel_rfl : opAt F6.o22 7 = some (some 200, .extract (.tmp 193) 0, none)) rfl rfl (fun w' hS => val_extract rfl rfl) ?_
              refine yS (by kernel_rfl : opAt F6.o22 8 = some (some 201, .extract (.tmp 193) 1, none)) rfl rfl (fun w' hS => val_extract rfl rfl) ?_
              refine yS (by kernel_rfl : opAt F6.o22 9 = some (some 28, .assign (.tmp 200), none)) rfl rfl (fun w' hS => val_assign rfl) ?_
              refine yS (by kernel_rfl : opAt F6.o22 10 = some (some 29, .assign (.tmp 201), none)) rfl rfl (fun w' hS => val_assign rfl) ?_
              refine Sch.nil ?_
              refine run_seq (x := F6.c80) (y := F6.c81) (by kernel_rfl) ?_
              refine run_plain (id := 23) (ops := F6.o23) [(0, true), (1, false), (2, true), (3, false), (4, true), (5, false), (6, true), (7, true), (8, true), (9, true), (10, true)] (by kernel_rfl) (by kernel_rfl) ?_
              refine yS (by kernel_rfl : opAt F6.o23 0 = some (some 203, .indexAddr 46 (.tmp 12) (.const (.int .i64 0)), none)) rfl rfl (fun w' hS => val_indexArr (n := 1) (o' := 0) Try.underlying46 (by kernel_rfl) rfl rfl (by decide) (by decide) rfl) ?_
              refine nS (by kernel_rfl : opAt F6.o23 1 = some (some 204, .load 28 (.tmp 203), none)) rfl rfl trivial (val_loadOwn hx.at_ (by kernel_rfl) rfl rfl) ?_
              refine yS (by kernel_rfl : opAt F6.o23 2 = some (some 205, .indexAddr 46 (.tmp 12) (.const (.int .i64 1)), none)) rfl rfl (fun w' hS => val_indexArr (n := 1) (o' := 1) Try.underlying46 (by kernel_rfl) rfl rfl (by decide) (by decide) rfl) ?_
              refine nS (by kernel_rfl : opAt F6.o23 3 = some (some 206, .load 28 (.tmp 205), none)) rfl rfl trivial (val_loadOwn hx.at_ (by kernel_rfl) rfl rfl) ?_
              refine yS (by kernel_rfl : opAt F6.o23 4 = some (some 207, .move (.tmp 19), none)) rfl rfl (fun w' hS => val_move rfl) ?_
              refine cS (by kernel_rfl : opAt F6.o23 5 = some (some 208, .call { callee := .value (.func 25), args := #[(.tmp 204), (.tmp 206), (.tmp 207)], argTypes := #[28, 28, 3] }, none)) rfl rfl (ent Try.call25 rfl) (rlist_ok hF ga gb _) ?_
              rintro vw31 w31 ⟨ul2, rfl, hs, hl2⟩
              refine ⟨trivial, ?_⟩
              replace hF := hF.st hs
              replace hT := hT.trans hs (by simp)
              replace hL := hL.st hs (by first | decide | (simp <;> omega))
              replace hd := hd.st hs (by first | decide | (simp <;> omega)) (by first | decide | (simp <;> omega))
              replace hx := hx.st hs (by first | decide | (simp <;> omega))
              replace ga := ga.st hs (by first | decide | (simp <;> omega))
              replace gb := gb.st hs (by first | decide | (simp <;> omega))
              replace hms := hms.st hs (by first | decide | (simp <;> omega))
              replace h155 := h155.st hs (by first | decide | (simp <;> omega))
              replace hl1 := hl1.st hs (by first | decide | (simp <;> omega))
              refine yS (by kernel_rfl : opAt F6.o23 6 = some (some 202, .move (.tmp 208), none)) rfl rfl (fun w' hS => val_move rfl) ?_
              refine yS (by kernel_rfl : opAt F6.o23 7 = some (some 209, .extract (.tmp 202) 0, none)) rfl rfl (fun w' hS => val_extract rfl rfl) ?_
              refine yS (by kernel_rfl : opAt F6.o23 8 = some (some 210, .extract (.tmp 202) 1, none)) rfl rfl (fun w' hS => val_extract rfl rfl) ?_
              refine yS (by kernel_rfl : opAt F6.o23 9 = some (some 30, .assign (.tmp 209), none)) rfl rfl (fun w' hS => val_assign rfl) ?_
              refine yS (by kernel_rfl : opAt F6.o23 10 = some (some 31, .assign (.tmp 210), none)) rfl rfl (fun w' hS => val_assign rfl) ?_
              refine Sch.nil ?_
              refine run_seq (x := F6.c82) (y := F6.c83) (by kernel_rfl) ?_
              refine run_plain (id := 24) (ops := F6.o24) [(0, true), (1, true), (2, true), (3, true), (4, true), (5, true), (6, true), (7, true), (8, true), (9, true), (10, true), (11, true), (12, true), (13, true), (14, true), (15, true), (16, true), (17, true), (18, true), (19, true), (20, true), (21, true), (22, true), (23, true), (24, true), (25, true), (26, false), (27, true), (28, true)] (by kernel_rfl) (by kernel_rfl) ?_
              refine yS (by kernel_rfl : opAt F6.o24 0 = some (some 211, .move (.tmp 20), none)) rfl rfl (fun w' hS => val_move rfl) ?_
              refine yS (by kernel_rfl : opAt F6.o24 1 = some (some 212, .move (.tmp 22), none)) rfl rfl (fun w' hS => val_move rfl) ?_
              refine yS (by kernel_rfl : opAt F6.o24 2 = some (some 213, .binOp .neq 3 (.tmp 211) (.tmp 212) 3, none)) rfl rfl (fun w' hS => val_F (val_neq rfl rfl) (fun h => h rfl)) ?_
              refine yS (by kernel_rfl : opAt F6.o24 3 = some (some 214, .move (.tmp 213), none)) rfl rfl (fun w' hS => val_move rfl) ?_
              refine yS (by kernel_rfl : opAt F6.o24 4 = some (some 215, .move (.tmp 21), (some (3, false)))) rfl rfl (fun w' hS => val_move rfl) ?_
              refine yS (by kernel_rfl : opAt F6.o24 5 = some (some 216, .move (.tmp 23), (some (3, false)))) rfl rfl (fun w' hS => val_move rfl) ?_
              refine yS (by kernel_rfl : opAt F6.o24 6 = some (some 217, .binOp .neq 31 (.tmp 215) (.tmp 216) 31, (some (3, false)))) rfl rfl (fun w' hS => val_F (val_neq rfl rfl) (fun h => h rfl)) ?_
              refine yS (by kernel_rfl : opAt F6.o24 7 = some (some 218, .pick (.tmp 214) (.const (.bool true)) (.tmp 217), none)) rfl rfl (fun w' hS => val_pick_f rfl rfl) ?_
              refine yS (by kernel_rfl : opAt F6.o24 8 = some (some 219, .move (.tmp 218), none)) rfl rfl (fun w' hS => val_move rfl) ?_
              refine yS (by kernel_rfl : opAt F6.o24 9 = some (some 220, .move (.tmp 24), (some (8, false)))) rfl rfl (fun w' hS => val_move rfl) ?_
              refine yS (by kernel_rfl : opAt F6.o24 10 = some (some 221, .move (.tmp 26), (some (8, false)))) rfl rfl (fun w' hS => val_move rfl) ?_
              refine yS (by kernel_rfl : opAt F6.o24 11 = some (some 222, .binOp .neq 3 (.tmp 220) (.tmp 221) 3, (some (8, false)))) rfl rfl (fun w' hS => val_F (val_neq rfl rfl) (fun h => h rfl)) ?_
              refine yS (by kernel_rfl : opAt F6.o24 12 = some (some 223, .pick (.tmp 219) (.const (.bool true)) (.tmp 222), none)) rfl rfl (fun w' hS => val_pick_f rfl rfl) ?_
              refine yS (by kernel_rfl : opAt F6.o24 13 = some (some 224, .move (.tmp 223), none)) rfl rfl (fun w' hS => val_move rfl) ?_
              refine yS (by kernel_rfl : opAt F6.o24 14 = some (some 225, .move (.tmp 25), (some (13, false)))) rfl rfl (fun w' hS => val_move rfl) ?_
              refine yS (by kernel_rfl : opAt F6.o24 15 = some (some 226, .move (.tmp 27), (some (13, false)))) rfl rfl (fun w' hS => val_move rfl) ?_
              refine yS (by kernel_rfl : opAt F6.o24 16 = some (some 227, .binOp .neq 31 (.tmp 225) (.tmp 226) 31, (some (13, false)))) rfl rfl (fun w' hS => val_F (val_neq rfl rfl) (fun h => h rfl)) ?_
              refine yS (by kernel_rfl : opAt F6.o24 17 = some (some 228, .pick (.tmp 224) (.const (.bool true)) (.tmp 227), none)) rfl rfl (fun w' hS => val_pick_f rfl rfl) ?_
              refine yS (by kernel_rfl : opAt F6.o24 18 = some (some 229, .move (.tmp 228), none)) rfl rfl (fun w' hS => val_move rfl) ?_
              refine yS (by kernel_rfl : opAt F6.o24 19 = some (some 230, .move (.tmp 29), (some (18, false)))) rfl rfl (fun w' hS => val_move rfl) ?_
              refine yS (by kernel_rfl : opAt F6.o24 20 = some (some 231, .move (.tmp 31), (some (18, false)))) rfl rfl (fun w' hS => val_move rfl) ?_
              refine yS (by kernel_rfl : opAt F6.o24 21 = some (some 232, .binOp .neq 31 (.tmp 230) (.tmp 231) 31, (some (18, false)))) rfl rfl (fun w' hS => val_F (val_neq rfl rfl) (fun h => h rfl)) ?_
              refine yS (by kernel_rfl : opAt F6.o24 22 = some (some 233, .pick (.tmp 229) (.const (.bool true)) (.tmp 232), none)) rfl rfl (fun w' hS => val_pick_f rfl rfl) ?_
              refine yS (by kernel_rfl : opAt F6.o24 23 = some (some 234, .move (.tmp 233), none)) rfl rfl (fun w' hS => val_move rfl) ?_
              refine yS (by kernel_rfl : opAt F6.o24 24 = some (some 235, .move (.tmp 28), (some (23, false)))) rfl rfl (fun w' hS => val_move rfl) ?_
              refine yS (by kernel_rfl : opAt F6.o24 25 = some (some 236, .move (.tmp 30), (some (23, false)))) rfl rfl (fun w' hS => val_move rfl) ?_
              refine cS (by kernel_rfl : opAt F6.o24 26 = some (some 237, .call { callee := .value (.func 26), args := #[(.tmp 235), (.tmp 236)], argTypes := #[30, 30] }, (some (23, false)))) rfl rfl (ent Try.call26 rfl) (rsame_ok hF hl1 hl2) ?_
              rintro vw32 w32 ⟨rfl, hs⟩
              refine ⟨trivial, ?_⟩
              replace hF := hF.st hs
              replace hT := hT.trans hs (by simp)
              replace hL := hL.st hs (by first | decide | (simp <;> omega))
              replace hd := hd.st hs (by first | decide | (simp <;> omega)) (by first | decide | (simp <;> omega))
              replace hx := hx.st hs (by first | decide | (simp <;> omega))
              replace ga := ga.st hs (by first | decide | (simp <;> omega))
              replace gb := gb.st hs (by first | decide | (simp <;> omega))
              replace hms := hms.st hs (by first | decide | (simp <;> omega))
              replace h155 := h155.st hs (by first | decide | (simp <;> omega))
              replace hl1 := hl1.st hs (by first | decide | (simp <;> omega))
              replace hl2 := hl2.st hs (by first | decide | (simp <;> omega))
              rw [decide_eq_true (rfl : (if checkM a b ms[q] ≠ 0 then [] else listS a b ms[q].toNat) = _)]
              refine yS (by kernel_rfl : opAt F6.o24 27 = some (some 238, .unOp .not 4 (.tmp 237), (some (23, false)))) rfl rfl (fun w' hS => val_not rfl) ?_
              refine yS (by kernel_rfl : opAt F6.o24 28 = some (some 239, .pick (.tmp 234) (.const (.bool true)) (.tmp 238), none)) rfl rfl (fun w' hS => val_pick_f rfl rfl) ?_
              refine Sch.nil ?_
              refine run_cond (x := F6.c84) (y := F6.c87) (o := .tmp 239) (b := false) (by kernel_rfl) rfl (fun h => by cases h) (fun _ => ?_)
              refine run_skip (by kernel_rfl) ?_
              refine run_inBlock ?_
              refine run_plain (id := 26) (ops := F6.o26) [(0, true), (1, true)] (by kernel_rfl) (by kernel_rfl) ?_
              refine yS (by kernel_rfl : opAt F6.o26 0 = some (some 240, .binOp .add 3 (.tmp 153) (.const (.int .i64 1)) 3, none)) rfl rfl (fun w' hS => val_addi rfl rfl (by omega) (by omega)) ?_
              refine yS (by kernel_rfl : opAt F6.o26 1 = some (some 153, .move (.tmp 240), none)) rfl rfl (fun w' hS => val_move rfl) ?_
              refine Sch.nil ?_
              refine kp (sub_cons 3 rfl rfl (sub_cons 9 rfl rfl (sub_cons 12 rfl rfl (sub_cons 77 rfl rfl (sub_cons 78 rfl rfl (sub_cons 79 rfl rfl (sub_cons 151 rfl rfl (sub_cons 152 rfl rfl (sub_cons 153 rfl (eq_int (by simp)) (sub_nil _)))))))))) (next3 (q + 1, C3) _ ⟨(by first | omega | (simp only; omega)), hF, hT, hL, hd, hx, ga, gb, hms⟩ (by first | omega | (simp only; omega)))
            · skip
              refine run_exit (id := 4) (by kernel_rfl) rfl ?_
              refine run_seq (x := F6.c90) (y := F6.c91) (by kernel_rfl) ?_
              refine run_plain (id := 27) (ops := F6.o27) [(0, true), (1, false), (2, true), (3, false), (4, false), (5, true), (6, true), (7, true), (8, true), (9, true)] (by kernel_rfl) (by kernel_rfl) ?_
              refine yS (by kernel_rfl : opAt F6.o27 0 = some (some 242, .indexAddr 46 (.tmp 12) (.const (.int .i64 0)), none)) rfl rfl (fun w' hS => val_indexArr (n := 1) (o' := 0) Try.underlying46 (by kernel_rfl) rfl rfl (by decide) (by decide) rfl) ?_
              refine nS (by kernel_rfl : opAt F6.o27 1 = some (some 243, .load 28 (.tmp 242), none)) rfl rfl trivial (val_loadOwn hx.at_ (by kernel_rfl) rfl rfl) ?_
              refine yS (by kernel_rfl : opAt F6.o27 2 = some (some 244, .indexAddr 46 (.tmp 12) (.const (.int .i64 1)), none)) rfl rfl (fun w' hS => val_indexArr (n := 1) (o' := 1) Try.underlying46 (by kernel_rfl) rfl rfl (by decide) (by decide) rfl) ?_
              refine nS (by kernel_rfl : opAt F6.o27 3 = some (some 245, .load 28 (.tmp 244), none)) rfl rfl trivial (val_loadOwn hx.at_ (by kernel_rfl) rfl rfl) ?_
              refine cS (by kernel_rfl : opAt F6.o27 4 = some (some 246, .call { callee := .value (.func 27), args := #[(.tmp 243), (.tmp 245)], argTypes := #[28, 28] }, none)) rfl rfl (ent Try.call27 rfl) (every_ok hF ga gb hsa hsb) ?_
              rintro vw33 w33 ⟨ue1, rfl, hs, he1⟩
              refine ⟨trivial, ?_⟩
              replace hF := hF.st hs
              replace hT := hT.trans hs (by simp)
              replace hL := hL.st hs (by first | decide | (simp <;> omega))
              replace hd := hd.st hs (by first | decide | (simp <;> omega)) (by first | decide | (simp <;> omega))
              replace hx := hx.st hs (by first | decide | (simp <;> omega))
              replace ga := ga.st hs (by first | decide | (simp <;> omega))
              replace gb := gb.st hs (by first | decide | (simp <;> omega))
              replace hms := hms.st hs (by first | decide | (simp <;> omega))
              refine yS (by kernel_rfl : opAt F6.o27 5 = some (some 241, .move (.tmp 246), none)) rfl rfl (fun w' hS => val_move rfl) ?_
              refine yS (by kernel_rfl : opAt F6.o27 6 = some (some 247, .extract (.tmp 241) 0, none)) rfl rfl (fun w' hS => val_extract rfl rfl) ?_
              refine yS (by kernel_rfl : opAt F6.o27 7 = some (some 248, .extract (.tmp 241) 1, none)) rfl rfl (fun w' hS => val_extract rfl rfl) ?_
              refine yS (by kernel_rfl : opAt F6.o27 8 = some (some 32, .assign (.tmp 247), none)) rfl rfl (fun w' hS => val_assign rfl) ?_
              refine yS (by kernel_rfl : opAt F6.o27 9 = some (some 33, .assign (.tmp 248), none)) rfl rfl (fun w' hS => val_assign rfl) ?_
              refine Sch.nil ?_
              refine run_seq (x := F6.c92) (y := F6.c93) (by kernel_rfl) ?_
              refine run_plain (id := 28) (ops := F6.o28) [(0, true), (1, false), (2, true), (3, false), (4, false), (5, true), (6, true), (7, true), (8, true), (9, true)] (by kernel_rfl) (by kernel_rfl) ?_
              refine yS (by kernel_rfl : opAt F6.o28 0 = some (some 250, .indexAddr 46 (.tmp 12) (.const (.int .i64 0)), none)) rfl rfl (fun w' hS => val_indexArr (n := 1) (o' := 0) Try.underlying46 (by kernel_rfl) rfl rfl (by decide) (by decide) rfl) ?_
              refine nS (by kernel_rfl : opAt F6.o28 1 = some (some 251, .load 28 (.tmp 250), none)) rfl rfl trivial (val_loadOwn hx.at_ (by kernel_rfl) rfl rfl) ?_
              refine yS (by kernel_rfl : opAt F6.o28 2 = some (some 252, .indexAddr 46 (.tmp 12) (.const (.int .i64 1)), none)) rfl rfl (fun w' hS => val_indexArr (n := 1) (o' := 1) Try.underlying46 (by kernel_rfl) rfl rfl (by decide) (by decide) rfl) ?_
              refine nS (by kernel_rfl : opAt F6.o28 3 = some (some 253, .load 28 (.tmp 252), none)) rfl rfl trivial (val_loadOwn hx.at_ (by kernel_rfl) rfl rfl) ?_
              refine cS (by kernel_rfl : opAt F6.o28 4 = some (some 254, .call { callee := .value (.func 28), args := #[(.tmp 251), (.tmp 253)], argTypes := #[28, 28] }, none)) rfl rfl (ent Try.call28 rfl) (revery_ok hF ga gb) ?_
              rintro vw34 w34 ⟨ue2, rfl, hs, he2⟩
              refine ⟨trivial, ?_⟩
              replace hF := hF.st hs
              replace hT := hT.trans hs (by simp)
              replace hL := hL.st hs (by first | decide | (simp <;> omega))
              replace hd := hd.st hs (by first | decide | (simp <;> omega)) (by first | decide | (simp <;> omega))
              replace hx := hx.st hs (by first | decide | (simp <;> omega))
              replace ga := ga.st hs (by first | decide | (simp <;> omega))
              replace gb := gb.st hs (by first | decide | (simp <;> omega))
              replace hms := hms.st hs (by first | decide | (simp <;> omega))
              replace he1 := he1.st hs (by first | decide | (simp <;> omega))
              refine yS (by kernel_rfl : opAt F6.o28 5 = some (some 249, .move (.tmp 254), none)) rfl rfl (fun w' hS => val_move rfl) ?_
              refine yS (by kernel_rfl : opAt F6.o28 6 = some (some 255, .extract (.tmp 249) 0, none)) rfl rfl (fun w' hS => val_extract rfl rfl) ?_
              refine yS (by kernel_rfl : opAt F6.o28 7 = some (some 256, .extract (.tmp 249) 1, none)) rfl rfl (fun w' hS => val_extract rfl rfl) ?_
              refine yS (by kernel_rfl : opAt F6.o28 8 = some (some 34, .assign (.tmp 255), none)) rfl rfl (fun w' hS => val_assign rfl) ?_
              refine yS (by kernel_rfl : opAt F6.o28 9 = some (some 35, .assign (.tmp 256), none)) rfl rfl (fun w' hS => val_assign rfl) ?_
              refine Sch.nil ?_
              refine run_seq (x := F6.c94) (y := F6.c95) (by kernel_rfl) ?_
              refine run_plain (id := 29) (ops := F6.o29) [(0, true), (1, true), (2, true), (3, true), (4, true), (5, true), (6, false), (7, true), (8, true)] (by kernel_rfl) (by kernel_rfl) ?_
              refine yS (by kernel_rfl : opAt F6.o29 0 = some (some 257, .move (.tmp 33), none)) rfl rfl (fun w' hS => val_move rfl) ?_
              refine yS (by kernel_rfl : opAt F6.o29 1 = some (some 258, .move (.tmp 35), none)) rfl rfl (fun w' hS => val_move rfl) ?_
              refine yS (by kernel_rfl : opAt F6.o29 2 = some (some 259, .binOp .neq 31 (.tmp 257) (.tmp 258) 31, none)) rfl rfl (fun w' hS => val_F (val_neq rfl rfl) (fun h => h rfl)) ?_
              refine yS (by kernel_rfl : opAt F6.o29 3 = some (some 260, .move (.tmp 259), none)) rfl rfl (fun w' hS => val_move rfl) ?_
              refine yS (by kernel_rfl : opAt F6.o29 4 = some (some 261, .move (.tmp 32), (some (3, false)))) rfl rfl (fun w' hS => val_move rfl) ?_
              refine yS (by kernel_rfl : opAt F6.o29 5 = some (some 262, .move (.tmp 34), (some (3, false)))) rfl rfl (fun w' hS => val_move rfl) ?_
              refine cS (by kernel_rfl : opAt F6.o29 6 = some (some 263, .call { callee := .value (.func 29), args := #[(.tmp 261), (.tmp 262)], argTypes := #[22, 22] }, (some (3, false)))) rfl rfl (ent Try.call29 rfl) (rints_ok hF he1 he2) ?_
              rintro vw35 w35 ⟨rfl, hs⟩
              refine ⟨trivial, ?_⟩
              replace hF := hF.st hs
              replace hT := hT.trans hs (by simp)
              replace hL := hL.st hs (by first | decide | (simp <;> omega))
              replace hd := hd.st hs (by first | decide | (simp <;> omega)) (by first | decide | (simp <;> omega))
              replace hx := hx.st hs (by first | decide | (simp <;> omega))
              replace ga := ga.st hs (by first | decide | (simp <;> omega))
              replace gb := gb.st hs (by first | decide | (simp <;> omega))
              replace hms := hms.st hs (by first | decide | (simp <;> omega))
              replace he1 := he1.st hs (by first | decide | (simp <;> omega))
              replace he2 := he2.st hs (by first | decide | (simp <;> omega))
              rw [decide_eq_true (rfl : (if checkM a b 0 ≠ 0 then [] else evO (2 ^ a.length) (agrI a b a.length)) = _)]
              refine yS (by kernel_rfl : opAt F6.o29 7 = some (some 264, .unOp .not 4 (.tmp 263), (some (3, false)))) rfl rfl (fun w' hS => val_not rfl) ?_
              refine yS (by kernel_rfl : opAt F6.o29 8 = some (some 265, .pick (.tmp 260) (.const (.bool true)) (.tmp 264), none)) rfl rfl (fun w' hS => val_pick_f rfl rfl) ?_
              refine Sch.nil ?_
              refine run_cond (x := F6.c96) (y := F6.c99) (o := .tmp 265) (b := false) (by kernel_rfl) rfl (fun h => by cases h) (fun _ => ?_)
              refine run_skip (by kernel_rfl) ?_
              refine run_inBlock ?_
              refine run_plain (id := 31) (ops := F6.o31) [(0, true), (1, true)] (by kernel_rfl) (by kernel_rfl) ?_
              refine yS (by kernel_rfl : opAt F6.o31 0 = some (some 266, .binOp .add 3 (.tmp 79) (.const (.int .i64 1)) 3, none)) rfl rfl (fun w' hS => val_addi rfl rfl (by omega) (by omega)) ?_
              refine yS (by kernel_rfl : opAt F6.o31 1 = some (some 79, .move (.tmp 266), none)) rfl rfl (fun w' hS => val_move rfl) ?_
              refine Sch.nil ?_
              refine kp (sub_cons 3 rfl rfl (sub_cons 9 rfl rfl (sub_cons 77 rfl rfl (sub_cons 78 rfl rfl (sub_cons 79 rfl (eq_int (by simp)) (sub_nil _)))))) (next1 (j + 1, C3) _ ⟨(by first | omega | (simp only; omega)), hF, hT, hL, hd⟩ (by first | omega | (simp only; omega)))
        · skip
          refine run_exit (id := 0) (by kernel_rfl) rfl ?_
          refine run_seq (x := F6.c102) (y := F6.c103) (by kernel_rfl) ?_
          refine run_plain (id := 32) (ops := F6.o32) [(0, true)] (by kernel_rfl) (by kernel_rfl) ?_
          refine yS (by kernel_rfl : opAt F6.o32 0 = some (some 8, .assign (.const (.bool true)), none)) rfl rfl (fun w' hS => val_assign rfl) ?_
          refine Sch.nil ?_
          refine run_ret1 (by kernel_rfl) Try.func6 Try.results6 rfl ?_
          exact ⟨rfl, hT.out1 (by decide)⟩
      · skip
        refine run_plain (id := 1) (ops := F6.o1) [(0, false), (1, true), (2, true), (3, true), (4, false), (5, true), (6, true), (7, true), (8, true), (9, false), (10, true), (11, true), (12, true), (13, true), (14, false), (15, true), (16, true)] (by kernel_rfl) (by kernel_rfl) ?_
        refine cS (by kernel_rfl : opAt F6.o1 0 = some (some 36, .call { callee := .value (.func 8), args := #[], argTypes := #[] }, none)) rfl rfl (ent Try.call8 rfl) (awake_ok hF) ?_
        rintro vw36 w36 ⟨rfl, hs⟩
        refine ⟨trivial, ?_⟩
        replace hF := hF.st hs
        replace hT := hT.trans hs (by simp)
        replace hl := hl.st hs (by first | decide | (simp <;> omega))
        replace hr := hr.st hs (by first | decide | (simp <;> omega))
        replace ho := ho.st hs (by first | decide | (simp <;> omega))
        refine yS (by kernel_rfl : opAt F6.o1 1 = some (some 37, .unOp .not 4 (.tmp 36), none)) rfl rfl (fun w' hS => val_not rfl) ?_
        refine yS (by kernel_rfl : opAt F6.o1 2 = some (some 38, .move (.tmp 37), none)) rfl rfl (fun w' hS => val_move rfl) ?_
        refine yS (by kernel_rfl : opAt F6.o1 3 = some (some 39, .move (.tmp 0), (some (2, false)))) rfl rfl (fun w' hS => val_move rfl) ?_
        refine cS (by kernel_rfl : opAt F6.o1 4 = some (some 40, .call { callee := .value (.func 9), args := #[(.tmp 39)], argTypes := #[22] }, (some (2, false)))) rfl rfl (ent Try.call9 rfl) (few_any hl) ?_
        rintro vw37 w37 ⟨rfl, rfl⟩
        rw [decide_eq_true (hA)]
        refine ⟨trivial, ?_⟩
        refine yS (by kernel_rfl : opAt F6.o1 5 = some (some 41, .unOp .not 4 (.tmp 40), (some (2, false)))) rfl rfl (fun w' hS => val_not rfl) ?_
        refine yS (by kernel_rfl : opAt F6.o1 6 = some (some 42, .pick (.tmp 38) (.const (.bool true)) (.tmp 41), none)) rfl rfl (fun w' hS => val_pick_f rfl rfl) ?_
        refine yS (by kernel_rfl : opAt F6.o1 7 = some (some 43, .move (.tmp 42), none)) rfl rfl (fun w' hS => val_move rfl) ?_
        refine yS (by kernel_rfl : opAt F6.o1 8 = some (some 44, .move (.tmp 1), (some (7, false)))) rfl rfl (fun w' hS => val_move rfl) ?_
        refine cS (by kernel_rfl : opAt F6.o1 9 = some (some 45, .call { callee := .value (.func 19), args := #[(.tmp 44)], argTypes := #[28] }, (some (7, false)))) rfl rfl (ent Try.call19 rfl) (small_ok hr hqr) ?_
        rintro vw38 w38 ⟨rfl, rfl⟩
        rw [decide_eq_true (hB)]
        refine ⟨trivial, ?_⟩
        refine yS (by kernel_rfl : opAt F6.o1 10 = some (some 46, .unOp .not 4 (.tmp 45), (some (7, false)))) rfl rfl (fun w' hS => val_not rfl) ?_
        refine yS (by kernel_rfl : opAt F6.o1 11 = some (some 47, .pick (.tmp 43) (.const (.bool true)) (.tmp 46), none)) rfl rfl (fun w' hS => val_pick_f rfl rfl) ?_
        refine yS (by kernel_rfl : opAt F6.o1 12 = some (some 48, .move (.tmp 47), none)) rfl rfl (fun w' hS => val_move rfl) ?_
        refine yS (by kernel_rfl : opAt F6.o1 13 = some (some 49, .move (.tmp 2), (some (12, false)))) rfl rfl (fun w' hS => val_move rfl) ?_
        refine cS (by kernel_rfl : opAt F6.o1 14 = some (some 50, .call { callee := .value (.func 19), args := #[(.tmp 49)], argTypes := #[28] }, (some (12, false)))) rfl rfl (ent Try.call19 rfl) (small_ok ho hqo) ?_
        rintro vw39 w39 ⟨rfl, rfl⟩
        rw [decide_eq_false (hC)]
        refine ⟨trivial, ?_⟩
        refine yS (by kernel_rfl : opAt F6.o1 15 = some (some 51, .unOp .not 4 (.tmp 50), (some (12, false)))) rfl rfl (fun w' hS => val_not rfl) ?_
        refine yS (by kernel_rfl : opAt F6.o1 16 = some (some 52, .pick (.tmp 48) (.const (.bool true)) (.tmp 51), none)) rfl rfl (fun w' hS => val_pick_f rfl rfl) ?_
        refine Sch.nil ?_
        refine run_cond (x := F6.c6) (y := F6.c9) (o := .tmp 52) (b := true) (by kernel_rfl) rfl (fun _ => ?_) (fun h => by cases h)
        refine run_seq (x := F6.c7) (y := F6.c8) (by kernel_rfl) ?_
        refine run_plain (id := 2) (ops := F6.o2) [(0, false), (1, true)] (by kernel_rfl) (by kernel_rfl) ?_
        refine cS (by kernel_rfl : opAt F6.o2 0 = some (some 53, .call { callee := .value (.func 8), args := #[], argTypes := #[] }, none)) rfl rfl (ent Try.call8 rfl) (awake_ok hF) ?_
        rintro vw40 w40 ⟨rfl, hs⟩
        refine ⟨trivial, ?_⟩
        replace hF := hF.st hs
        replace hT := hT.trans hs (by simp)
        replace hl := hl.st hs (by first | decide | (simp <;> omega))
        replace hr := hr.st hs (by first | decide | (simp <;> omega))
        replace ho := ho.st hs (by first | decide | (simp <;> omega))
        refine yS (by kernel_rfl : opAt F6.o2 1 = some (some 8, .assign (.tmp 53), none)) rfl rfl (fun w' hS => val_assign rfl) ?_
        refine Sch.nil ?_
        refine run_ret1 (by kernel_rfl) Try.func6 Try.results6 rfl ?_
        exact ⟨rfl, hT.out1 (by decide)⟩
    · skip
      refine run_plain (id := 1) (ops := F6.o1) [(0, false), (1, true), (2, true), (3, true), (4, false), (5, true), (6, true), (7, true), (8, true), (9, false), (10, true), (11, true), (12, true), (13, true), (14, false), (15, true), (16, true)] (by kernel_rfl) (by kernel_rfl) ?_
      refine cS (by kernel_rfl : opAt F6.o1 0 = some (some 36, .call { callee := .value (.func 8), args := #[], argTypes := #[] }, none)) rfl rfl (ent Try.call8 rfl) (awake_ok hF) ?_
      rintro vw41 w41 ⟨rfl, hs⟩
      refine ⟨trivial, ?_⟩
      replace hF := hF.st hs
      replace hT := hT.trans hs (by simp)
      replace hl := hl.st hs (by first | decide | (simp <;> omega))
      replace hr := hr.st hs (by first | decide | (simp <;> omega))
      replace ho := ho.st hs (by first | decide | (simp <;> omega))
      refine yS (by kernel_rfl : opAt F6.o1 1 = some (some 37, .unOp .not 4 (.tmp 36), none)) rfl rfl (fun w' hS => val_not rfl) ?_
      refine yS (by kernel_rfl : opAt F6.o1 2 = some (some 38, .move (.tmp 37), none)) rfl rfl (fun w' hS => val_move rfl) ?_
      refine yS (by kernel_rfl : opAt F6.o1 3 = some (some 39, .move (.tmp 0), (some (2, false)))) rfl rfl (fun w' hS => val_move rfl) ?_
      refine cS (by kernel_rfl : opAt F6.o1 4 = some (some 40, .call { callee := .value (.func 9), args := #[(.tmp 39)], argTypes := #[22] }, (some (2, false)))) rfl rfl (ent Try.call9 rfl) (few_any hl) ?_
      rintro vw42 w42 ⟨rfl, rfl⟩
      rw [decide_eq_true (hA)]
      refine ⟨trivial, ?_⟩
      refine yS (by kernel_rfl : opAt F6.o1 5 = some (some 41, .unOp .not 4 (.tmp 40), (some (2, false)))) rfl rfl (fun w' hS => val_not rfl) ?_
      refine yS (by kernel_rfl : opAt F6.o1 6 = some (some 42, .pick (.tmp 38) (.const (.bool true)) (.tmp 41), none)) rfl rfl (fun w' hS => val_pick_f rfl rfl) ?_
      refine yS (by kernel_rfl : opAt F6.o1 7 = some (some 43, .move (.tmp 42), none)) rfl rfl (fun w' hS => val_move rfl) ?_
      refine yS (by kernel_rfl : opAt F6.o1 8 = some (some 44, .move (.tmp 1), (some (7, false)))) rfl rfl (fun w' hS => val_move rfl) ?_
      refine cS (by kernel_rfl : opAt F6.o1 9 = some (some 45, .call { callee := .value (.func 19), args := #[(.tmp 44)], argTypes := #[28] }, (some (7, false)))) rfl rfl (ent Try.call19 rfl) (small_ok hr hqr) ?_
      rintro vw43 w43 ⟨rfl, rfl⟩
      rw [decide_eq_false (hB)]
      refine ⟨trivial, ?_⟩
      refine yS (by kernel_rfl : opAt F6.o1 10 = some (some 46, .unOp .not 4 (.tmp 45), (some (7, false)))) rfl rfl (fun w' hS => val_not rfl) ?_
      refine yS (by kernel_rfl : opAt F6.o1 11 = some (some 47, .pick (.tmp 43) (.const (.bool true)) (.tmp 46), none)) rfl rfl (fun w' hS => val_pick_f rfl rfl) ?_
      refine yS (by kernel_rfl : opAt F6.o1 12 = some (some 48, .move (.tmp 47), none)) rfl rfl (fun w' hS => val_move rfl) ?_
      refine pS (by kernel_rfl : opAt F6.o1 13 = some (some 49, .move (.tmp 2), (some (12, false)))) rfl rfl ?_
      refine pW (by kernel_rfl : opAt F6.o1 14 = some (some 50, .call { callee := .value (.func 19), args := #[(.tmp 49)], argTypes := #[28] }, (some (12, false)))) rfl rfl trivial ?_
      refine pS (by kernel_rfl : opAt F6.o1 15 = some (some 51, .unOp .not 4 (.tmp 50), (some (12, false)))) rfl rfl ?_
      refine yS (by kernel_rfl : opAt F6.o1 16 = some (some 52, .pick (.tmp 48) (.const (.bool true)) (.tmp 51), none)) rfl rfl (fun w' hS => val_pick_t rfl rfl) ?_
      refine Sch.nil ?_
      refine run_cond (x := F6.c6) (y := F6.c9) (o := .tmp 52) (b := true) (by kernel_rfl) rfl (fun _ => ?_) (fun h => by cases h)
      refine run_seq (x := F6.c7) (y := F6.c8) (by kernel_rfl) ?_
      refine run_plain (id := 2) (ops := F6.o2) [(0, false), (1, true)] (by kernel_rfl) (by kernel_rfl) ?_
      refine cS (by kernel_rfl : opAt F6.o2 0 = some (some 53, .call { callee := .value (.func 8), args := #[], argTypes := #[] }, none)) rfl rfl (ent Try.call8 rfl) (awake_ok hF) ?_
      rintro vw44 w44 ⟨rfl, hs⟩
      refine ⟨trivial, ?_⟩
      replace hF := hF.st hs
      replace hT := hT.trans hs (by simp)
      replace hl := hl.st hs (by first | decide | (simp <;> omega))
      replace hr := hr.st hs (by first | decide | (simp <;> omega))
      replace ho := ho.st hs (by first | decide | (simp <;> omega))
      refine yS (by kernel_rfl : opAt F6.o2 1 = some (some 8, .assign (.tmp 53), none)) rfl rfl (fun w' hS => val_assign rfl) ?_
      refine Sch.nil ?_
      refine run_ret1 (by kernel_rfl) Try.func6 Try.results6 rfl ?_
      exact ⟨rfl, hT.out1 (by decide)⟩
  · skip
    refine run_plain (id := 1) (ops := F6.o1) [(0, false), (1, true), (2, true), (3, true), (4, false), (5, true), (6, true), (7, true), (8, true), (9, false), (10, true), (11, true), (12, true), (13, true), (14, false), (15, true), (16, true)] (by kernel_rfl) (by kernel_rfl) ?_
    refine cS (by kernel_rfl : opAt F6.o1 0 = some (some 36, .call { callee := .value (.func 8), args := #[], argTypes := #[] }, none)) rfl rfl (ent Try.call8 rfl) (awake_ok hF) ?_
    rintro vw45 w45 ⟨rfl, hs⟩
    refine ⟨trivial, ?_⟩
    replace hF := hF.st hs
    replace hT := hT.trans hs (by simp)
    replace hl := hl.st hs (by first | decide | (simp <;> omega))
    replace hr := hr.st hs (by first | decide | (simp <;> omega))
    replace ho := ho.st hs (by first | decide | (simp <;> omega))
    refine yS (by kernel_rfl : opAt F6.o1 1 = some (some 37, .unOp .not 4 (.tmp 36), none)) rfl rfl (fun w' hS => val_not rfl) ?_
    refine yS (by kernel_rfl : opAt F6.o1 2 = some (some 38, .move (.tmp 37), none)) rfl rfl (fun w' hS => val_move rfl) ?_
    refine yS (by kernel_rfl : opAt F6.o1 3 = some (some 39, .move (.tmp 0), (some (2, false)))) rfl rfl (fun w' hS => val_move rfl) ?_
    refine cS (by kernel_rfl : opAt F6.o1 4 = some (some 40, .call { callee := .value (.func 9), args := #[(.tmp 39)], argTypes := #[22] }, (some (2, false)))) rfl rfl (ent Try.call9 rfl) (few_any hl) ?_
    rintro vw46 w46 ⟨rfl, rfl⟩
    rw [decide_eq_false (hA)]
    refine ⟨trivial, ?_⟩
    refine yS (by kernel_rfl : opAt F6.o1 5 = some (some 41, .unOp .not 4 (.tmp 40), (some (2, false)))) rfl rfl (fun w' hS => val_not rfl) ?_
    refine yS (by kernel_rfl : opAt F6.o1 6 = some (some 42, .pick (.tmp 38) (.const (.bool true)) (.tmp 41), none)) rfl rfl (fun w' hS => val_pick_f rfl rfl) ?_
    refine yS (by kernel_rfl : opAt F6.o1 7 = some (some 43, .move (.tmp 42), none)) rfl rfl (fun w' hS => val_move rfl) ?_
    refine pS (by kernel_rfl : opAt F6.o1 8 = some (some 44, .move (.tmp 1), (some (7, false)))) rfl rfl ?_
    refine pW (by kernel_rfl : opAt F6.o1 9 = some (some 45, .call { callee := .value (.func 19), args := #[(.tmp 44)], argTypes := #[28] }, (some (7, false)))) rfl rfl trivial ?_
    refine pS (by kernel_rfl : opAt F6.o1 10 = some (some 46, .unOp .not 4 (.tmp 45), (some (7, false)))) rfl rfl ?_
    refine yS (by kernel_rfl : opAt F6.o1 11 = some (some 47, .pick (.tmp 43) (.const (.bool true)) (.tmp 46), none)) rfl rfl (fun w' hS => val_pick_t rfl rfl) ?_
    refine yS (by kernel_rfl : opAt F6.o1 12 = some (some 48, .move (.tmp 47), none)) rfl rfl (fun w' hS => val_move rfl) ?_
    refine pS (by kernel_rfl : opAt F6.o1 13 = some (some 49, .move (.tmp 2), (some (12, false)))) rfl rfl ?_
    refine pW (by kernel_rfl : opAt F6.o1 14 = some (some 50, .call { callee := .value (.func 19), args := #[(.tmp 49)], argTypes := #[28] }, (some (12, false)))) rfl rfl trivial ?_
    refine pS (by kernel_rfl : opAt F6.o1 15 = some (some 51, .unOp .not 4 (.tmp 50), (some (12, false)))) rfl rfl ?_
    refine yS (by kernel_rfl : opAt F6.o1 16 = some (some 52, .pick (.tmp 48) (.const (.bool true)) (.tmp 51), none)) rfl rfl (fun w' hS => val_pick_t rfl rfl) ?_
    refine Sch.nil ?_
    refine run_cond (x := F6.c6) (y := F6.c9) (o := .tmp 52) (b := true) (by kernel_rfl) rfl (fun _ => ?_) (fun h => by cases h)
    refine run_seq (x := F6.c7) (y := F6.c8) (by kernel_rfl) ?_
    refine run_plain (id := 2) (ops := F6.o2) [(0, false), (1, true)] (by kernel_rfl) (by kernel_rfl) ?_
    refine cS (by kernel_rfl : opAt F6.o2 0 = some (some 53, .call { callee := .value (.func 8), args := #[], argTypes := #[] }, none)) rfl rfl (ent Try.call8 rfl) (awake_ok hF) ?_
    rintro vw47 w47 ⟨rfl, hs⟩
    refine ⟨trivial, ?_⟩
    replace hF := hF.st hs
    replace hT := hT.trans hs (by simp)
    replace hl := hl.st hs (by first | decide | (simp <;> omega))
    replace hr := hr.st hs (by first | decide | (simp <;> omega))
    replace ho := ho.st hs (by first | decide | (simp <;> omega))
    refine yS (by kernel_rfl : opAt F6.o2 1 = some (some 8, .assign (.tmp 53), none)) rfl rfl (fun w' hS => val_assign rfl) ?_
    refine Sch.nil ?_
    refine run_ret1 (by kernel_rfl) Try.func6 Try.results6 rfl ?_
    exact ⟨rfl, hT.out1 (by decide)⟩
end Go.Proofs.Ytejbklahkkjmhaa
