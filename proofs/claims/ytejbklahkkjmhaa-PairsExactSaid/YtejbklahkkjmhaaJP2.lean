/- Steps through functions of the program. -/
import Derived.Test.YtejbklahkkjmhaaJP1
set_option linter.unusedVariables false
set_option linter.unusedSimpArgs false
set_option maxRecDepth 100000
set_option maxHeartbeats 400000
namespace Go.Proofs.Ytejbklahkkjmhaa
open Go.K Go.K.Rep

namespace F41
noncomputable def c0 : Code := bodyOf Try.f41
noncomputable def c1 : Code := cl c0
noncomputable def o0 : Array Oper := rops c1
noncomputable def c2 : Code := cr c0
noncomputable def c3 : Code := cl c2
noncomputable def o1 : Array Oper := rops c3
noncomputable def c4 : Code := cr c2
noncomputable def c5 : Code := cl c4
noncomputable def c6 : Code := cl c5
noncomputable def o2 : Array Oper := rops c6
noncomputable def c7 : Code := cr c5
noncomputable def c8 : Code := cl c7
noncomputable def c9 : Code := cl c8
noncomputable def c10 : Code := cl c9
noncomputable def o3 : Array Oper := rops c10
noncomputable def c11 : Code := cr c9
noncomputable def c12 : Code := cl c11
noncomputable def c13 : Code := cl c12
noncomputable def c14 : Code := cr c12
noncomputable def c15 : Code := cr c11
noncomputable def c16 : Code := cl c15
noncomputable def c17 : Code := cl c16
noncomputable def c18 : Code := cl c17
noncomputable def o4 : Array Oper := rops c18
noncomputable def c19 : Code := cr c17
noncomputable def c20 : Code := cl c19
noncomputable def o5 : Array Oper := rops c20
noncomputable def c21 : Code := cr c19
noncomputable def c22 : Code := cl c21
noncomputable def c23 : Code := cl c22
noncomputable def o6 : Array Oper := rops c23
noncomputable def c24 : Code := cr c22
noncomputable def c25 : Code := cr c21
noncomputable def c26 : Code := cr c15
noncomputable def o7 : Array Oper := rops c26
noncomputable def c27 : Code := cr c4
noncomputable def c28 : Code := cl c27
noncomputable def o8 : Array Oper := rops c28
noncomputable def c29 : Code := cr c27
end F41
/-- 'cmp.Or'. -/
theorem orE_ok {w₀ : World} {M : Nat → Prop} {l : List Int} {vl : Value} (hl : RV w₀ M l vl) : Calls Try.prog 41 #[vl] w₀ (Ret fun v w' => v = .int .i64 (orL l) ∧ w' = w₀) := by
  refine calls_start (c := F41.c0) (N := 18) [vl] Try.func41 (by kernel_rfl) (by kernel_rfl) (by kernel_rfl) ?_
  show Run _ _ _ _ [(0, vl)] _ _
  refine run_seq (x := F41.c1) (y := F41.c2) (by kernel_rfl) ?_
  refine run_plain (id := 0) (ops := F41.o0) [(0, true)] (by kernel_rfl) (by kernel_rfl) ?_
  refine yS (by kernel_rfl : opAt F41.o0 0 = some (some 2, .assign (.const (.int .i64 0)), none)) rfl rfl (fun w' hS => val_assign rfl) ?_
  refine Sch.nil ?_
  refine run_seq (x := F41.c3) (y := F41.c4) (by kernel_rfl) ?_
  refine run_plain (id := 1) (ops := F41.o1) [(0, true)] (by kernel_rfl) (by kernel_rfl) ?_
  refine yS (by kernel_rfl : opAt F41.o1 0 = some (some 3, .assign (.const (.int .i64 0)), none)) rfl rfl (fun w' hS => val_assign rfl) ?_
  refine Sch.nil ?_
  refine run_seq (x := F41.c5) (y := F41.c27) (by kernel_rfl) ?_
  refine run_seq (x := F41.c6) (y := F41.c7) (by kernel_rfl) ?_
  refine run_plain (id := 2) (ops := F41.o2) [(0, true), (1, true), (2, true)] (by kernel_rfl) (by kernel_rfl) ?_
  refine yS (by kernel_rfl : opAt F41.o2 0 = some (some 6, .move (.tmp 0), none)) rfl rfl (fun w' hS => val_move rfl) ?_
  refine yS (by kernel_rfl : opAt F41.o2 1 = some (some 7, .call { callee := .builtin .len, args := #[(.tmp 6)], argTypes := #[77] }, none)) rfl rfl (fun w' hS => hl.lenV rfl Try.underlying77 w' ) ?_
  refine yS (by kernel_rfl : opAt F41.o2 2 = some (some 8, .move (.const (.int .i64 0)), none)) rfl rfl (fun w' hS => val_move rfl) ?_
  refine Sch.nil ?_
  refine run_block (x := F41.c8) (id := 0) (by kernel_rfl) ?_
  refine run_loop (ι := Nat) (I := fun x w => x ≤ l.length ∧ w = w₀ ∧ orL (l.drop x) = orL l) (e := fun x => [(3, .int .i64 0), (6, vl), (7, .int .i64 l.length), (8, .int .i64 x)]) (m := fun x => l.length - x) (x₀ := 0) (body := F41.c9) (by kernel_rfl) (sub_cons 3 rfl rfl (sub_cons 6 rfl rfl (sub_cons 7 rfl rfl (sub_cons 8 rfl rfl (sub_nil _))))) ?_ ?_
  · exact ⟨Nat.zero_le _, rfl, rfl⟩
  intro i w1 hI next
  obtain ⟨hi, rfl, ho⟩ := hI
  have hll := hl.le
  refine run_seq (x := F41.c10) (y := F41.c11) (by kernel_rfl) ?_
  refine run_plain (id := 3) (ops := F41.o3) [(0, true)] (by kernel_rfl) (by kernel_rfl) ?_
  refine yS (by kernel_rfl : opAt F41.o3 0 = some (some 9, .binOp .lss 3 (.tmp 8) (.tmp 7) 3, none)) rfl rfl (fun w' hS => val_lss rfl rfl) ?_
  refine Sch.nil ?_
  refine run_seq (x := F41.c12) (y := F41.c15) (by kernel_rfl) ?_
  refine run_if (x := F41.c13) (y := F41.c14) (o := .tmp 9) (by kernel_rfl) rfl (fun h9 => ?_) (fun h9 => ?_)
  · skip
    have hil : i < l.length := by omega
    rw [orL_drop hil] at ho
    refine run_skip (by kernel_rfl) ?_
    refine run_seq (x := F41.c16) (y := F41.c26) (by kernel_rfl) ?_
    refine run_block (x := F41.c17) (id := 1) (by kernel_rfl) ?_
    refine run_seq (x := F41.c18) (y := F41.c19) (by kernel_rfl) ?_
    refine run_plain (id := 4) (ops := F41.o4) [(0, true), (1, false), (2, true)] (by kernel_rfl) (by kernel_rfl) ?_
    refine iS (e := 31) (by kernel_rfl : opAt F41.o4 0 = some (some 10, .indexAddr 77 (.tmp 6) (.tmp 8), none)) rfl rfl hl rfl (by kernel_rfl) rfl (by omega) (by omega) ?_
    intro b10 o10 h10
    try simp only [Int.toNat_natCast] at h10
    refine lN (by kernel_rfl : opAt F41.o4 1 = some (some 11, .load 31 (.tmp 10), none)) rfl rfl trivial h10 (by kernel_rfl) rfl rfl ?_
    intro v11 g11
    first | (obtain rfl := rv_nat.1 g11) | (obtain rfl := rv_int.1 g11)
    refine yS (by kernel_rfl : opAt F41.o4 2 = some (some 5, .assign (.tmp 11), none)) rfl rfl (fun w' hS => val_assign rfl) ?_
    refine Sch.nil ?_
    refine run_seq (x := F41.c20) (y := F41.c21) (by kernel_rfl) ?_
    refine run_plain (id := 5) (ops := F41.o5) [(0, true), (1, true), (2, true)] (by kernel_rfl) (by kernel_rfl) ?_
    refine yS (by kernel_rfl : opAt F41.o5 0 = some (some 12, .move (.tmp 5), none)) rfl rfl (fun w' hS => val_move rfl) ?_
    refine yS (by kernel_rfl : opAt F41.o5 1 = some (some 13, .move (.tmp 3), none)) rfl rfl (fun w' hS => val_move rfl) ?_
    refine yS (by kernel_rfl : opAt F41.o5 2 = some (some 14, .binOp .neq 31 (.tmp 12) (.tmp 13) 31, none)) rfl rfl (fun w' hS => val_neq rfl rfl) ?_
    refine Sch.nil ?_
    refine run_if (x := F41.c22) (y := F41.c25) (o := .tmp 14) (by kernel_rfl) rfl (fun h14 => ?_) (fun h14 => ?_)
    · skip
      rw [if_neg h14] at ho
      refine run_seq (x := F41.c23) (y := F41.c24) (by kernel_rfl) ?_
      refine run_plain (id := 6) (ops := F41.o6) [(0, true), (1, true)] (by kernel_rfl) (by kernel_rfl) ?_
      refine yS (by kernel_rfl : opAt F41.o6 0 = some (some 15, .move (.tmp 5), none)) rfl rfl (fun w' hS => val_move rfl) ?_
      refine yS (by kernel_rfl : opAt F41.o6 1 = some (some 2, .assign (.tmp 15), none)) rfl rfl (fun w' hS => val_assign rfl) ?_
      refine Sch.nil ?_
      refine run_ret1 (by kernel_rfl) Try.func41 Try.results41 rfl ?_
      exact ⟨by rw [ho], rfl⟩
    · skip
      have h14 : l[i] = 0 := by simpa using h14
      rw [if_pos h14] at ho
      refine run_skip (by kernel_rfl) ?_
      refine run_inBlock ?_
      refine run_plain (id := 7) (ops := F41.o7) [(0, true), (1, true)] (by kernel_rfl) (by kernel_rfl) ?_
      refine yS (by kernel_rfl : opAt F41.o7 0 = some (some 16, .binOp .add 3 (.tmp 8) (.const (.int .i64 1)) 3, none)) rfl rfl (fun w' hS => val_addi rfl rfl (by omega) (by omega)) ?_
      refine yS (by kernel_rfl : opAt F41.o7 1 = some (some 8, .move (.tmp 16), none)) rfl rfl (fun w' hS => val_move rfl) ?_
      refine Sch.nil ?_
      refine kp ?_ (next (i + 1) _ ⟨by omega, rfl, ho⟩ (by omega))
      exact sub_cons 3 rfl rfl (sub_cons 6 rfl rfl (sub_cons 7 rfl rfl (sub_cons 8 rfl (eq_int (by simp)) (sub_nil _))))
  · skip
    have hil : i = l.length := by omega
    refine run_exit (id := 0) (by kernel_rfl) rfl ?_
    refine run_seq (x := F41.c28) (y := F41.c29) (by kernel_rfl) ?_
    refine run_plain (id := 8) (ops := F41.o8) [(0, true), (1, true)] (by kernel_rfl) (by kernel_rfl) ?_
    refine yS (by kernel_rfl : opAt F41.o8 0 = some (some 17, .move (.tmp 3), none)) rfl rfl (fun w' hS => val_move rfl) ?_
    refine yS (by kernel_rfl : opAt F41.o8 1 = some (some 2, .assign (.tmp 17), none)) rfl rfl (fun w' hS => val_assign rfl) ?_
    refine Sch.nil ?_
    refine run_ret1 (by kernel_rfl) Try.func41 Try.results41 rfl ?_
    subst hil
    rw [List.drop_length] at ho
    exact ⟨by rw [← ho]; rfl, rfl⟩
namespace F35
noncomputable def c0 : Code := bodyOf Try.f35
noncomputable def c1 : Code := cl c0
noncomputable def o0 : Array Oper := rops c1
noncomputable def c2 : Code := cr c0
noncomputable def c3 : Code := cl c2
noncomputable def o1 : Array Oper := rops c3
noncomputable def c4 : Code := cr c2
noncomputable def c5 : Code := cl c4
noncomputable def c6 : Code := cl c5
noncomputable def o2 : Array Oper := rops c6
noncomputable def c7 : Code := cr c5
noncomputable def c8 : Code := cl c7
noncomputable def c9 : Code := cl c8
noncomputable def c10 : Code := cl c9
noncomputable def o3 : Array Oper := rops c10
noncomputable def c11 : Code := cr c9
noncomputable def c12 : Code := cl c11
noncomputable def c13 : Code := cl c12
noncomputable def c14 : Code := cr c12
noncomputable def c15 : Code := cr c11
noncomputable def c16 : Code := cl c15
noncomputable def c17 : Code := cl c16
noncomputable def c18 : Code := cl c17
noncomputable def o4 : Array Oper := rops c18
noncomputable def c19 : Code := cr c17
noncomputable def c20 : Code := cl c19
noncomputable def o5 : Array Oper := rops c20
noncomputable def c21 : Code := cr c19
noncomputable def c22 : Code := cl c21
noncomputable def c23 : Code := cl c22
noncomputable def o6 : Array Oper := rops c23
noncomputable def c24 : Code := cr c22
noncomputable def c25 : Code := cr c21
noncomputable def c26 : Code := cr c15
noncomputable def o7 : Array Oper := rops c26
noncomputable def c27 : Code := cr c4
noncomputable def c28 : Code := cl c27
noncomputable def o8 : Array Oper := rops c28
noncomputable def c29 : Code := cr c27
end F35
/-- 'cmp.Or'. -/
theorem orI_ok {w₀ : World} {M : Nat → Prop} {l : List Int} {vl : Value} (hl : RV w₀ M l vl) : Calls Try.prog 35 #[vl] w₀ (Ret fun v w' => v = .int .i64 (orL l) ∧ w' = w₀) := by
  refine calls_start (c := F35.c0) (N := 18) [vl] Try.func35 (by kernel_rfl) (by kernel_rfl) (by kernel_rfl) ?_
  show Run _ _ _ _ [(0, vl)] _ _
  refine run_seq (x := F35.c1) (y := F35.c2) (by kernel_rfl) ?_
  refine run_plain (id := 0) (ops := F35.o0) [(0, true)] (by kernel_rfl) (by kernel_rfl) ?_
  refine yS (by kernel_rfl : opAt F35.o0 0 = some (some 2, .assign (.const (.int .i64 0)), none)) rfl rfl (fun w' hS => val_assign rfl) ?_
  refine Sch.nil ?_
  refine run_seq (x := F35.c3) (y := F35.c4) (by kernel_rfl) ?_
  refine run_plain (id := 1) (ops := F35.o1) [(0, true)] (by kernel_rfl) (by kernel_rfl) ?_
  refine yS (by kernel_rfl : opAt F35.o1 0 = some (some 3, .assign (.const (.int .i64 0)), none)) rfl rfl (fun w' hS => val_assign rfl) ?_
  refine Sch.nil ?_
  refine run_seq (x := F35.c5) (y := F35.c27) (by kernel_rfl) ?_
  refine run_seq (x := F35.c6) (y := F35.c7) (by kernel_rfl) ?_
  refine run_plain (id := 2) (ops := F35.o2) [(0, true), (1, true), (2, true)] (by kernel_rfl) (by kernel_rfl) ?_
  refine yS (by kernel_rfl : opAt F35.o2 0 = some (some 6, .move (.tmp 0), none)) rfl rfl (fun w' hS => val_move rfl) ?_
  refine yS (by kernel_rfl : opAt F35.o2 1 = some (some 7, .call { callee := .builtin .len, args := #[(.tmp 6)], argTypes := #[22] }, none)) rfl rfl (fun w' hS => hl.lenV rfl Try.underlying22 w' ) ?_
  refine yS (by kernel_rfl : opAt F35.o2 2 = some (some 8, .move (.const (.int .i64 0)), none)) rfl rfl (fun w' hS => val_move rfl) ?_
  refine Sch.nil ?_
  refine run_block (x := F35.c8) (id := 0) (by kernel_rfl) ?_
  refine run_loop (ι := Nat) (I := fun x w => x ≤ l.length ∧ w = w₀ ∧ orL (l.drop x) = orL l) (e := fun x => [(3, .int .i64 0), (6, vl), (7, .int .i64 l.length), (8, .int .i64 x)]) (m := fun x => l.length - x) (x₀ := 0) (body := F35.c9) (by kernel_rfl) (sub_cons 3 rfl rfl (sub_cons 6 rfl rfl (sub_cons 7 rfl rfl (sub_cons 8 rfl rfl (sub_nil _))))) ?_ ?_
  · exact ⟨Nat.zero_le _, rfl, rfl⟩
  intro i w1 hI next
  obtain ⟨hi, rfl, ho⟩ := hI
  have hll := hl.le
  refine run_seq (x := F35.c10) (y := F35.c11) (by kernel_rfl) ?_
  refine run_plain (id := 3) (ops := F35.o3) [(0, true)] (by kernel_rfl) (by kernel_rfl) ?_
  refine yS (by kernel_rfl : opAt F35.o3 0 = some (some 9, .binOp .lss 3 (.tmp 8) (.tmp 7) 3, none)) rfl rfl (fun w' hS => val_lss rfl rfl) ?_
  refine Sch.nil ?_
  refine run_seq (x := F35.c12) (y := F35.c15) (by kernel_rfl) ?_
  refine run_if (x := F35.c13) (y := F35.c14) (o := .tmp 9) (by kernel_rfl) rfl (fun h9 => ?_) (fun h9 => ?_)
  · skip
    have hil : i < l.length := by omega
    rw [orL_drop hil] at ho
    refine run_skip (by kernel_rfl) ?_
    refine run_seq (x := F35.c16) (y := F35.c26) (by kernel_rfl) ?_
    refine run_block (x := F35.c17) (id := 1) (by kernel_rfl) ?_
    refine run_seq (x := F35.c18) (y := F35.c19) (by kernel_rfl) ?_
    refine run_plain (id := 4) (ops := F35.o4) [(0, true), (1, false), (2, true)] (by kernel_rfl) (by kernel_rfl) ?_
    refine iS (e := 3) (by kernel_rfl : opAt F35.o4 0 = some (some 10, .indexAddr 22 (.tmp 6) (.tmp 8), none)) rfl rfl hl rfl (by kernel_rfl) rfl (by omega) (by omega) ?_
    intro b10 o10 h10
    try simp only [Int.toNat_natCast] at h10
    refine lN (by kernel_rfl : opAt F35.o4 1 = some (some 11, .load 3 (.tmp 10), none)) rfl rfl trivial h10 (by kernel_rfl) rfl rfl ?_
    intro v11 g11
    first | (obtain rfl := rv_nat.1 g11) | (obtain rfl := rv_int.1 g11)
    refine yS (by kernel_rfl : opAt F35.o4 2 = some (some 5, .assign (.tmp 11), none)) rfl rfl (fun w' hS => val_assign rfl) ?_
    refine Sch.nil ?_
    refine run_seq (x := F35.c20) (y := F35.c21) (by kernel_rfl) ?_
    refine run_plain (id := 5) (ops := F35.o5) [(0, true), (1, true), (2, true)] (by kernel_rfl) (by kernel_rfl) ?_
    refine yS (by kernel_rfl : opAt F35.o5 0 = some (some 12, .move (.tmp 5), none)) rfl rfl (fun w' hS => val_move rfl) ?_
    refine yS (by kernel_rfl : opAt F35.o5 1 = some (some 13, .move (.tmp 3), none)) rfl rfl (fun w' hS => val_move rfl) ?_
    refine yS (by kernel_rfl : opAt F35.o5 2 = some (some 14, .binOp .neq 3 (.tmp 12) (.tmp 13) 3, none)) rfl rfl (fun w' hS => val_neq rfl rfl) ?_
    refine Sch.nil ?_
    refine run_if (x := F35.c22) (y := F35.c25) (o := .tmp 14) (by kernel_rfl) rfl (fun h14 => ?_) (fun h14 => ?_)
    · skip
      rw [if_neg h14] at ho
      refine run_seq (x := F35.c23) (y := F35.c24) (by kernel_rfl) ?_
      refine run_plain (id := 6) (ops := F35.o6) [(0, true), (1, true)] (by kernel_rfl) (by kernel_rfl) ?_
      refine yS (by kernel_rfl : opAt F35.o6 0 = some (some 15, .move (.tmp 5), none)) rfl rfl (fun w' hS => val_move rfl) ?_
      refine yS (by kernel_rfl : opAt F35.o6 1 = some (some 2, .assign (.tmp 15), none)) rfl rfl (fun w' hS => val_assign rfl) ?_
      refine Sch.nil ?_
      refine run_ret1 (by kernel_rfl) Try.func35 Try.results35 rfl ?_
      exact ⟨by rw [ho], rfl⟩
    · skip
      have h14 : l[i] = 0 := by simpa using h14
      rw [if_pos h14] at ho
      refine run_skip (by kernel_rfl) ?_
      refine run_inBlock ?_
      refine run_plain (id := 7) (ops := F35.o7) [(0, true), (1, true)] (by kernel_rfl) (by kernel_rfl) ?_
      refine yS (by kernel_rfl : opAt F35.o7 0 = some (some 16, .binOp .add 3 (.tmp 8) (.const (.int .i64 1)) 3, none)) rfl rfl (fun w' hS => val_addi rfl rfl (by omega) (by omega)) ?_
      refine yS (by kernel_rfl : opAt F35.o7 1 = some (some 8, .move (.tmp 16), none)) rfl rfl (fun w' hS => val_move rfl) ?_
      refine Sch.nil ?_
      refine kp ?_ (next (i + 1) _ ⟨by omega, rfl, ho⟩ (by omega))
      exact sub_cons 3 rfl rfl (sub_cons 6 rfl rfl (sub_cons 7 rfl rfl (sub_cons 8 rfl (eq_int (by simp)) (sub_nil _))))
  · skip
    have hil : i = l.length := by omega
    refine run_exit (id := 0) (by kernel_rfl) rfl ?_
    refine run_seq (x := F35.c28) (y := F35.c29) (by kernel_rfl) ?_
    refine run_plain (id := 8) (ops := F35.o8) [(0, true), (1, true)] (by kernel_rfl) (by kernel_rfl) ?_
    refine yS (by kernel_rfl : opAt F35.o8 0 = some (some 17, .move (.tmp 3), none)) rfl rfl (fun w' hS => val_move rfl) ?_
    refine yS (by kernel_rfl : opAt F35.o8 1 = some (some 2, .assign (.tmp 17), none)) rfl rfl (fun w' hS => val_assign rfl) ?_
    refine Sch.nil ?_
    refine run_ret1 (by kernel_rfl) Try.func35 Try.results35 rfl ?_
    subst hil
    rw [List.drop_length] at ho
    exact ⟨by rw [← ho]; rfl, rfl⟩
namespace F44
noncomputable def c0 : Code := bodyOf Try.f44
noncomputable def c1 : Code := cl c0
noncomputable def o0 : Array Oper := rops c1
noncomputable def c2 : Code := cr c0
noncomputable def c3 : Code := cl c2
noncomputable def o1 : Array Oper := rops c3
noncomputable def c4 : Code := cr c2
end F44
theorem isNaN_ok (x : Int) (w : World) : Calls Try.prog 44 #[.int .i64 x] w (Ret fun v w' => v = .bool false ∧ w' = w) := by
  refine calls_start (c := F44.c0) (N := 6) [.int .i64 x] Try.func44 (by kernel_rfl) (by kernel_rfl) (by kernel_rfl) ?_
  show Run _ _ _ _ [(0, .int .i64 x)] _ _
  refine run_seq (x := F44.c1) (y := F44.c2) (by kernel_rfl) ?_
  refine run_plain (id := 0) (ops := F44.o0) [(0, true)] (by kernel_rfl) (by kernel_rfl) ?_
  refine yS (by kernel_rfl : opAt F44.o0 0 = some (some 2, .assign (.const (.bool false)), none)) rfl rfl (fun w' hS => val_assign rfl) ?_
  refine Sch.nil ?_
  refine run_seq (x := F44.c3) (y := F44.c4) (by kernel_rfl) ?_
  refine run_plain (id := 1) (ops := F44.o1) [(0, true), (1, true), (2, true), (3, true)] (by kernel_rfl) (by kernel_rfl) ?_
  refine yS (by kernel_rfl : opAt F44.o1 0 = some (some 3, .move (.tmp 0), none)) rfl rfl (fun w' hS => val_move rfl) ?_
  refine yS (by kernel_rfl : opAt F44.o1 1 = some (some 4, .move (.tmp 0), none)) rfl rfl (fun w' hS => val_move rfl) ?_
  refine yS (by kernel_rfl : opAt F44.o1 2 = some (some 5, .binOp .neq 3 (.tmp 3) (.tmp 4) 3, none)) rfl rfl (fun w' hS => val_neq rfl rfl) ?_
  refine yS (by kernel_rfl : opAt F44.o1 3 = some (some 2, .assign (.tmp 5), none)) rfl rfl (fun w' hS => val_assign rfl) ?_
  refine Sch.nil ?_
  refine run_ret1 (by kernel_rfl) Try.func44 Try.results44 rfl ?_
  exact ⟨by simp, rfl⟩
namespace F36
noncomputable def c0 : Code := bodyOf Try.f36
noncomputable def c1 : Code := cl c0
noncomputable def o0 : Array Oper := rops c1
noncomputable def c2 : Code := cr c0
noncomputable def c3 : Code := cl c2
noncomputable def o1 : Array Oper := rops c3
noncomputable def c4 : Code := cr c2
noncomputable def c5 : Code := cl c4
noncomputable def o2 : Array Oper := rops c5
noncomputable def c6 : Code := cr c4
noncomputable def c7 : Code := cl c6
noncomputable def c8 : Code := cl c7
noncomputable def o3 : Array Oper := rops c8
noncomputable def c9 : Code := cr c7
noncomputable def c10 : Code := cl c9
noncomputable def c11 : Code := cl c10
noncomputable def c12 : Code := cl c11
noncomputable def o4 : Array Oper := rops c12
noncomputable def c13 : Code := cr c11
noncomputable def c14 : Code := cl c13
noncomputable def c15 : Code := cl c14
noncomputable def o5 : Array Oper := rops c15
noncomputable def c16 : Code := cr c14
noncomputable def c17 : Code := cr c13
noncomputable def c18 : Code := cr c10
noncomputable def c19 : Code := cl c18
noncomputable def o6 : Array Oper := rops c19
noncomputable def c20 : Code := cr c18
noncomputable def c21 : Code := cr c9
noncomputable def c22 : Code := cr c6
noncomputable def c23 : Code := cl c22
noncomputable def c24 : Code := cl c23
noncomputable def o7 : Array Oper := rops c24
noncomputable def c25 : Code := cr c23
noncomputable def c26 : Code := cl c25
noncomputable def c27 : Code := cl c26
noncomputable def o8 : Array Oper := rops c27
noncomputable def c28 : Code := cr c26
noncomputable def c29 : Code := cr c25
noncomputable def c30 : Code := cr c22
noncomputable def c31 : Code := cl c30
noncomputable def c32 : Code := cl c31
noncomputable def o9 : Array Oper := rops c32
noncomputable def c33 : Code := cr c31
noncomputable def c34 : Code := cl c33
noncomputable def c35 : Code := cl c34
noncomputable def o10 : Array Oper := rops c35
noncomputable def c36 : Code := cr c34
noncomputable def c37 : Code := cr c33
noncomputable def c38 : Code := cr c30
noncomputable def c39 : Code := cl c38
noncomputable def c40 : Code := cl c39
noncomputable def o11 : Array Oper := rops c40
noncomputable def c41 : Code := cr c39
noncomputable def c42 : Code := cl c41
noncomputable def c43 : Code := cl c42
noncomputable def o12 : Array Oper := rops c43
noncomputable def c44 : Code := cr c42
noncomputable def c45 : Code := cr c41
noncomputable def c46 : Code := cr c38
noncomputable def c47 : Code := cl c46
noncomputable def o13 : Array Oper := rops c47
noncomputable def c48 : Code := cr c46
end F36
/-- 'cmp.Compare'. -/
theorem cmpI_ok (x y : Int) (w : World) : Calls Try.prog 36 #[.int .i64 x, .int .i64 y] w (Ret fun v w' => v = .int .i64 (cmpI x y) ∧ w' = w) := by
  refine calls_start (c := F36.c0) (N := 20) [.int .i64 x, .int .i64 y] Try.func36 (by kernel_rfl) (by kernel_rfl) (by kernel_rfl) ?_
  show Run _ _ _ _ [(0, .int .i64 x), (1, .int .i64 y)] _ _
  refine run_seq (x := F36.c1) (y := F36.c2) (by kernel_rfl) ?_
  refine run_plain (id := 0) (ops := F36.o0) [(0, true)] (by kernel_rfl) (by kernel_rfl) ?_
  refine yS (by kernel_rfl : opAt F36.o0 0 = some (some 4, .assign (.const (.int .i64 0)), none)) rfl rfl (fun w' hS => val_assign rfl) ?_
  refine Sch.nil ?_
  refine run_seq (x := F36.c3) (y := F36.c4) (by kernel_rfl) ?_
  refine run_plain (id := 1) (ops := F36.o1) [(0, true), (1, false), (2, true)] (by kernel_rfl) (by kernel_rfl) ?_
  refine yS (by kernel_rfl : opAt F36.o1 0 = some (some 7, .move (.tmp 0), none)) rfl rfl (fun w' hS => val_move rfl) ?_
  refine cS (by kernel_rfl : opAt F36.o1 1 = some (some 8, .call { callee := .value (.func 44), args := #[(.tmp 7)], argTypes := #[3] }, none)) rfl rfl (ent Try.call44 rfl) (isNaN_ok _ _) ?_
  rintro vw1 w1 ⟨rfl, rfl⟩
  refine ⟨trivial, ?_⟩
  refine yS (by kernel_rfl : opAt F36.o1 2 = some (some 5, .assign (.tmp 8), none)) rfl rfl (fun w' hS => val_assign rfl) ?_
  refine Sch.nil ?_
  refine run_seq (x := F36.c5) (y := F36.c6) (by kernel_rfl) ?_
  refine run_plain (id := 2) (ops := F36.o2) [(0, true), (1, false), (2, true)] (by kernel_rfl) (by kernel_rfl) ?_
  refine yS (by kernel_rfl : opAt F36.o2 0 = some (some 9, .move (.tmp 1), none)) rfl rfl (fun w' hS => val_move rfl) ?_
  refine cS (by kernel_rfl : opAt F36.o2 1 = some (some 10, .call { callee := .value (.func 44), args := #[(.tmp 9)], argTypes := #[3] }, none)) rfl rfl (ent Try.call44 rfl) (isNaN_ok _ _) ?_
  rintro vw2 w2 ⟨rfl, rfl⟩
  refine ⟨trivial, ?_⟩
  refine yS (by kernel_rfl : opAt F36.o2 2 = some (some 6, .assign (.tmp 10), none)) rfl rfl (fun w' hS => val_assign rfl) ?_
  refine Sch.nil ?_
  refine run_seq (x := F36.c7) (y := F36.c22) (by kernel_rfl) ?_
  refine run_seq (x := F36.c8) (y := F36.c9) (by kernel_rfl) ?_
  refine run_plain (id := 3) (ops := F36.o3) [(0, true)] (by kernel_rfl) (by kernel_rfl) ?_
  refine yS (by kernel_rfl : opAt F36.o3 0 = some (some 11, .move (.tmp 5), none)) rfl rfl (fun w' hS => val_move rfl) ?_
  refine Sch.nil ?_
  refine run_cond (x := F36.c10) (y := F36.c21) (o := .tmp 11) (b := false) (by kernel_rfl) rfl (fun h => by cases h) (fun _ => ?_)
  refine run_skip (by kernel_rfl) ?_
  refine run_seq (x := F36.c23) (y := F36.c30) (by kernel_rfl) ?_
  refine run_seq (x := F36.c24) (y := F36.c25) (by kernel_rfl) ?_
  refine run_plain (id := 7) (ops := F36.o7) [(0, true)] (by kernel_rfl) (by kernel_rfl) ?_
  refine yS (by kernel_rfl : opAt F36.o7 0 = some (some 13, .move (.tmp 6), none)) rfl rfl (fun w' hS => val_move rfl) ?_
  refine Sch.nil ?_
  refine run_cond (x := F36.c26) (y := F36.c29) (o := .tmp 13) (b := false) (by kernel_rfl) rfl (fun h => by cases h) (fun _ => ?_)
  refine run_skip (by kernel_rfl) ?_
  refine run_seq (x := F36.c31) (y := F36.c38) (by kernel_rfl) ?_
  refine run_seq (x := F36.c32) (y := F36.c33) (by kernel_rfl) ?_
  refine run_plain (id := 9) (ops := F36.o9) [(0, true), (1, true), (2, true)] (by kernel_rfl) (by kernel_rfl) ?_
  refine yS (by kernel_rfl : opAt F36.o9 0 = some (some 14, .move (.tmp 0), none)) rfl rfl (fun w' hS => val_move rfl) ?_
  refine yS (by kernel_rfl : opAt F36.o9 1 = some (some 15, .move (.tmp 1), none)) rfl rfl (fun w' hS => val_move rfl) ?_
  refine yS (by kernel_rfl : opAt F36.o9 2 = some (some 16, .binOp .lss 3 (.tmp 14) (.tmp 15) 3, none)) rfl rfl (fun w' hS => val_lss rfl rfl) ?_
  refine Sch.nil ?_
  refine run_if (x := F36.c34) (y := F36.c37) (o := .tmp 16) (by kernel_rfl) rfl (fun h16 => ?_) (fun h16 => ?_)
  · skip
    refine run_seq (x := F36.c35) (y := F36.c36) (by kernel_rfl) ?_
    refine run_plain (id := 10) (ops := F36.o10) [(0, true)] (by kernel_rfl) (by kernel_rfl) ?_
    refine yS (by kernel_rfl : opAt F36.o10 0 = some (some 4, .assign (.const (.int .i64 (-1))), none)) rfl rfl (fun w' hS => val_assign rfl) ?_
    refine Sch.nil ?_
    refine run_ret1 (by kernel_rfl) Try.func36 Try.results36 rfl ?_
    exact ⟨eq_int (by unfold cmpI; split <;> (try split) <;> omega), rfl⟩
  · skip
    refine run_skip (by kernel_rfl) ?_
    refine run_seq (x := F36.c39) (y := F36.c46) (by kernel_rfl) ?_
    refine run_seq (x := F36.c40) (y := F36.c41) (by kernel_rfl) ?_
    refine run_plain (id := 11) (ops := F36.o11) [(0, true), (1, true), (2, true)] (by kernel_rfl) (by kernel_rfl) ?_
    refine yS (by kernel_rfl : opAt F36.o11 0 = some (some 17, .move (.tmp 0), none)) rfl rfl (fun w' hS => val_move rfl) ?_
    refine yS (by kernel_rfl : opAt F36.o11 1 = some (some 18, .move (.tmp 1), none)) rfl rfl (fun w' hS => val_move rfl) ?_
    refine yS (by kernel_rfl : opAt F36.o11 2 = some (some 19, .binOp .gtr 3 (.tmp 17) (.tmp 18) 3, none)) rfl rfl (fun w' hS => val_gtr rfl rfl) ?_
    refine Sch.nil ?_
    refine run_if (x := F36.c42) (y := F36.c45) (o := .tmp 19) (by kernel_rfl) rfl (fun h19 => ?_) (fun h19 => ?_)
    · skip
      refine run_seq (x := F36.c43) (y := F36.c44) (by kernel_rfl) ?_
      refine run_plain (id := 12) (ops := F36.o12) [(0, true)] (by kernel_rfl) (by kernel_rfl) ?_
      refine yS (by kernel_rfl : opAt F36.o12 0 = some (some 4, .assign (.const (.int .i64 1)), none)) rfl rfl (fun w' hS => val_assign rfl) ?_
      refine Sch.nil ?_
      refine run_ret1 (by kernel_rfl) Try.func36 Try.results36 rfl ?_
      exact ⟨eq_int (by unfold cmpI; split <;> (try split) <;> omega), rfl⟩
    · skip
      refine run_skip (by kernel_rfl) ?_
      refine run_seq (x := F36.c47) (y := F36.c48) (by kernel_rfl) ?_
      refine run_plain (id := 13) (ops := F36.o13) [(0, true)] (by kernel_rfl) (by kernel_rfl) ?_
      refine yS (by kernel_rfl : opAt F36.o13 0 = some (some 4, .assign (.const (.int .i64 0)), none)) rfl rfl (fun w' hS => val_assign rfl) ?_
      refine Sch.nil ?_
      refine run_ret1 (by kernel_rfl) Try.func36 Try.results36 rfl ?_
      exact ⟨eq_int (by unfold cmpI; split <;> (try split) <;> omega), rfl⟩
namespace F34
noncomputable def c0 : Code := bodyOf Try.f34
noncomputable def c1 : Code := cl c0
noncomputable def o0 : Array Oper := rops c1
noncomputable def c2 : Code := cr c0
noncomputable def c3 : Code := cl c2
noncomputable def o1 : Array Oper := rops c3
noncomputable def c4 : Code := cr c2
end F34
/-- The order of couples. -/
theorem less_ok {w₀ : World} {C : Nat → Nat} {x y : Couple} (hF : Lim w₀ C) : Calls Try.prog 34 #[.agg #[.int .i64 x.a, .int .i64 x.b], .agg #[.int .i64 y.a, .int .i64 y.b]] w₀ (Ret fun v w' => v = .int .i64 (cmpC x y) ∧ Stp [] w₀ C w' C) := by
  have hF0 := hF
  have hT := Stp.refl [2, 3, 4, 5, 6, 7, 8, 9] w₀ (col1 C)
  replace hF := hF.col1
  refine calls_start (c := F34.c0) (N := 17) [.agg #[.int .i64 x.a, .int .i64 x.b], .agg #[.int .i64 y.a, .int .i64 y.b]] Try.func34 (by kernel_rfl) (by kernel_rfl) (by kernel_rfl) ?_
  show Run _ _ _ _ [(0, .agg #[.int .i64 x.a, .int .i64 x.b]), (1, .agg #[.int .i64 y.a, .int .i64 y.b])] _ _
  refine run_seq (x := F34.c1) (y := F34.c2) (by kernel_rfl) ?_
  refine run_plain (id := 0) (ops := F34.o0) [(0, false), (1, false), (2, true)] (by kernel_rfl) (by kernel_rfl) ?_
  refine aS (by kernel_rfl : opAt F34.o0 0 = some (some 2, .box 37 (.tmp 0), none)) rfl rfl (a_box (cs := [.int .i64 x.a, .int .i64 x.b]) hF 3 rfl rfl) ?_
  rintro _ w1 ⟨Cw1, bw1, rfl, hs, hx, hF⟩
  refine ⟨trivial, ?_⟩
  replace hT := hT.trans hs (by simp)
  refine aS (by kernel_rfl : opAt F34.o0 1 = some (some 3, .box 37 (.tmp 1), none)) rfl rfl (a_box (cs := [.int .i64 y.a, .int .i64 y.b]) hF 3 rfl rfl) ?_
  rintro _ w2 ⟨Cw2, bw2, rfl, hs, hy, hF⟩
  refine ⟨trivial, ?_⟩
  replace hT := hT.trans hs (by simp)
  replace hx := hx.st hs (by first | decide | (simp <;> omega))
  refine yS (by kernel_rfl : opAt F34.o0 2 = some (some 4, .assign (.const (.int .i64 0)), none)) rfl rfl (fun w' hS => val_assign rfl) ?_
  refine Sch.nil ?_
  refine run_seq (x := F34.c3) (y := F34.c4) (by kernel_rfl) ?_
  refine run_draw (id := 1) (ops := F34.o1) [] (Cw2) [(0, true), (1, true), (2, true), (3, true), (5, true), (6, true), (7, true), (8, true), (4, false), (9, false), (10, false), (11, false), (12, true)] Try_mixed (by kernel_rfl) (by kernel_rfl) (by kernel_rfl) ?_
  intro w3 hs
  replace hF := hF.st hs
  replace hT := hT.trans hs (by simp)
  replace hx := hx.st hs (by first | decide | (simp <;> omega))
  replace hy := hy.st hs (by first | decide | (simp <;> omega))
  have hR := Stp.refl [] w3 (Cw2)
  refine yS (by kernel_rfl : opAt F34.o1 0 = some (some 5, .fieldAddr 37 (.tmp 2) 0, none)) rfl rfl (fun w' hS => val_fieldAddr (off := 0) (by kernel_rfl) rfl) ?_
  refine yS (by kernel_rfl : opAt F34.o1 1 = some (some 6, .load 3 (.tmp 5), none)) rfl rfl (fun w' hS => val_loadOwn (hx.stay hS (by decide)) (by kernel_rfl) rfl rfl) ?_
  refine yS (by kernel_rfl : opAt F34.o1 2 = some (some 7, .fieldAddr 37 (.tmp 3) 0, none)) rfl rfl (fun w' hS => val_fieldAddr (off := 0) (by kernel_rfl) rfl) ?_
  refine yS (by kernel_rfl : opAt F34.o1 3 = some (some 8, .load 3 (.tmp 7), none)) rfl rfl (fun w' hS => val_loadOwn (hy.stay hS (by decide)) (by kernel_rfl) rfl rfl) ?_
  refine yS (by kernel_rfl : opAt F34.o1 5 = some (some 10, .fieldAddr 37 (.tmp 2) 1, none)) rfl rfl (fun w' hS => val_fieldAddr (off := 1) (by kernel_rfl) rfl) ?_
  refine yS (by kernel_rfl : opAt F34.o1 6 = some (some 11, .load 3 (.tmp 10), none)) rfl rfl (fun w' hS => val_loadOwn (hx.stay hS (by decide)) (by kernel_rfl) rfl rfl) ?_
  refine yS (by kernel_rfl : opAt F34.o1 7 = some (some 12, .fieldAddr 37 (.tmp 3) 1, none)) rfl rfl (fun w' hS => val_fieldAddr (off := 1) (by kernel_rfl) rfl) ?_
  refine yS (by kernel_rfl : opAt F34.o1 8 = some (some 13, .load 3 (.tmp 12), none)) rfl rfl (fun w' hS => val_loadOwn (hy.stay hS (by decide)) (by kernel_rfl) rfl rfl) ?_
  refine cS (by kernel_rfl : opAt F34.o1 4 = some (some 9, .call { callee := .value (.func 36), args := #[(.tmp 6), (.tmp 8)], argTypes := #[3, 3] }, none)) rfl rfl (ent Try.call36 rfl) (cmpI_ok _ _ _) ?_
  rintro vw4 w4 ⟨rfl, rfl⟩
  refine ⟨hR.ext, ?_⟩
  refine cS (by kernel_rfl : opAt F34.o1 9 = some (some 14, .call { callee := .value (.func 36), args := #[(.tmp 11), (.tmp 13)], argTypes := #[3, 3] }, none)) rfl rfl (ent Try.call36 rfl) (cmpI_ok _ _ _) ?_
  rintro vw5 w5 ⟨rfl, rfl⟩
  refine ⟨hR.ext, ?_⟩
  refine aS (by kernel_rfl : opAt F34.o1 10 = some (some 15, .buildSlice 22 2 #[(0, (.tmp 9)), (1, (.tmp 14))], none)) rfl rfl (a_buildSlice (ys := ([cmpI x.a y.a, cmpI x.b y.b] : List Int)) (e := 3) (bytes := 8) hF (by kernel_rfl) rfl (by decide) (by decide) ⟨rfl, ⟨_, rfl, rv_int.2 rfl⟩, rfl, ⟨_, rfl, rv_int.2 rfl⟩, trivial⟩) ?_
  rintro v15 w6 ⟨hs, g15, hF⟩
  refine ⟨(hR.trans hs (by simp)).ext, ?_⟩
  replace hT := hT.trans hs (by simp)
  replace hx := hx.st hs (by first | decide | (simp <;> omega))
  replace hy := hy.st hs (by first | decide | (simp <;> omega))
  replace hR := hR.trans hs (by simp)
  refine cS (by kernel_rfl : opAt F34.o1 11 = some (some 16, .call { callee := .value (.func 35), args := #[(.tmp 15)], argTypes := #[22] }, none)) rfl rfl (ent Try.call35 rfl) (orI_ok g15) ?_
  rintro vw7 w7 ⟨rfl, rfl⟩
  refine ⟨hR.ext, ?_⟩
  refine yS (by kernel_rfl : opAt F34.o1 12 = some (some 4, .assign (.tmp 16), none)) rfl rfl (fun w' hS => val_assign rfl) ?_
  refine Sch.nil ?_
  refine run_ret1 (by kernel_rfl) Try.func34 Try.results34 rfl ?_
  exact ⟨rfl, hT.out1 (by decide)⟩
namespace F31
noncomputable def c0 : Code := bodyOf Try.f31
noncomputable def c1 : Code := cl c0
noncomputable def o0 : Array Oper := rops c1
noncomputable def c2 : Code := cr c0
noncomputable def c3 : Code := cl c2
noncomputable def c4 : Code := cl c3
noncomputable def o1 : Array Oper := rops c4
noncomputable def c5 : Code := cr c3
noncomputable def c6 : Code := cl c5
noncomputable def c7 : Code := cl c6
noncomputable def o2 : Array Oper := rops c7
noncomputable def c8 : Code := cr c6
noncomputable def c9 : Code := cr c5
noncomputable def c10 : Code := cr c2
noncomputable def c11 : Code := cl c10
noncomputable def c12 : Code := cl c11
noncomputable def o3 : Array Oper := rops c12
noncomputable def c13 : Code := cr c11
noncomputable def c14 : Code := cl c13
noncomputable def c15 : Code := cl c14
noncomputable def c16 : Code := cl c15
noncomputable def o4 : Array Oper := rops c16
noncomputable def c17 : Code := cr c15
noncomputable def c18 : Code := cl c17
noncomputable def c19 : Code := cl c18
noncomputable def c20 : Code := cr c18
noncomputable def c21 : Code := cr c17
noncomputable def c22 : Code := cl c21
noncomputable def c23 : Code := cl c22
noncomputable def c24 : Code := cl c23
noncomputable def o5 : Array Oper := rops c24
noncomputable def c25 : Code := cr c23
noncomputable def c26 : Code := cl c25
noncomputable def o6 : Array Oper := rops c26
noncomputable def c27 : Code := cr c25
noncomputable def c28 : Code := cl c27
noncomputable def o7 : Array Oper := rops c28
noncomputable def c29 : Code := cr c27
noncomputable def c30 : Code := cl c29
noncomputable def c31 : Code := cl c30
noncomputable def o8 : Array Oper := rops c31
noncomputable def c32 : Code := cr c30
noncomputable def c33 : Code := cr c29
noncomputable def c34 : Code := cr c21
noncomputable def o9 : Array Oper := rops c34
noncomputable def c35 : Code := cr c10
noncomputable def c36 : Code := cl c35
noncomputable def c37 : Code := cl c36
noncomputable def o10 : Array Oper := rops c37
noncomputable def c38 : Code := cr c36
noncomputable def c39 : Code := cl c38
noncomputable def c40 : Code := cl c39
noncomputable def o11 : Array Oper := rops c40
noncomputable def c41 : Code := cr c39
noncomputable def c42 : Code := cr c38
noncomputable def c43 : Code := cr c35
noncomputable def c44 : Code := cl c43
noncomputable def o12 : Array Oper := rops c44
noncomputable def c45 : Code := cr c43
end F31
/-- Blocks of block keys are checked. -/
theorem checkM_ok {w₀ : World} {C : Nat → Nat} {a b : List (List Block)} {va vb : Value} {mask : Int} (hF : Lim w₀ C) (ha : RV w₀ (Mc C) a va) (hb : RV w₀ (Mc C) b vb) (hsa : ∀ x ∈ a, total x ≤ 4611686018427387904) (hsb : ∀ x ∈ b, total x ≤ 4611686018427387904) : Calls Try.prog 31 #[va, vb, .int .i64 mask] w₀ (Ret fun v w' => v = .int .i64 (checkM a b mask) ∧ Stp [] w₀ C w' C) := by
  have hF0 := hF
  have hT := Stp.refl [2, 3, 4, 5, 6, 7, 8, 9] w₀ (col1 C)
  replace hF := hF.col1
  replace ha : RV w₀ (Mc (col1 C)) a va := by rw [Mc_col1]; exact ha
  replace hb : RV w₀ (Mc (col1 C)) b vb := by rw [Mc_col1]; exact hb
  refine calls_start (c := F31.c0) (N := 49) [va, vb, .int .i64 mask] Try.func31 (by kernel_rfl) (by kernel_rfl) (by kernel_rfl) ?_
  show Run _ _ _ _ [(0, va), (1, vb), (2, .int .i64 mask)] _ _
  refine run_seq (x := F31.c1) (y := F31.c2) (by kernel_rfl) ?_
  refine run_plain (id := 0) (ops := F31.o0) [(0, true)] (by kernel_rfl) (by kernel_rfl) ?_
  refine yS (by kernel_rfl : opAt F31.o0 0 = some (some 6, .assign (.const (.int .i64 0)), none)) rfl rfl (fun w' hS => val_assign rfl) ?_
  refine Sch.nil ?_
  refine run_seq (x := F31.c3) (y := F31.c10) (by kernel_rfl) ?_
  refine run_seq (x := F31.c4) (y := F31.c5) (by kernel_rfl) ?_
  refine run_cut 18 (decide (a.length ≠ b.length ∨ 8 < a.length)) (col1 C) ?_ ?_
  · intro hcut
    by_cases hA : ¬ (a.length : Int) = b.length
    · skip
      refine run_plain (id := 1) (ops := F31.o1) [(0, true), (1, true), (2, true), (3, true), (4, true), (5, true), (6, true), (7, true), (8, true), (9, true)] (by kernel_rfl) (by kernel_rfl) ?_
      refine yS (by kernel_rfl : opAt F31.o1 0 = some (some 9, .move (.tmp 0), none)) rfl rfl (fun w' hS => val_move rfl) ?_
      have hla := ha.le
      have hlb := hb.le
      refine yS (by kernel_rfl : opAt F31.o1 1 = some (some 10, .call { callee := .builtin .len, args := #[(.tmp 9)], argTypes := #[28] }, none)) rfl rfl (fun w' hS => ha.lenV rfl Try.underlying28 w' ) ?_
      refine yS (by kernel_rfl : opAt F31.o1 2 = some (some 11, .move (.tmp 1), none)) rfl rfl (fun w' hS => val_move rfl) ?_
      refine yS (by kernel_rfl : opAt F31.o1 3 = some (some 12, .call { callee := .builtin .len, args := #[(.tmp 11)], argTypes := #[28] }, none)) rfl rfl (fun w' hS => hb.lenV rfl Try.underlying28 w' ) ?_
      refine yS (by kernel_rfl : opAt F31.o1 4 = some (some 13, .binOp .neq 3 (.tmp 10) (.tmp 12) 3, none)) rfl rfl (fun w' hS => val_T (val_neq rfl rfl) hA) ?_
      refine yS (by kernel_rfl : opAt F31.o1 5 = some (some 14, .move (.tmp 13), none)) rfl rfl (fun w' hS => val_move rfl) ?_
      refine pS (by kernel_rfl : opAt F31.o1 6 = some (some 15, .move (.tmp 0), (some (5, false)))) rfl rfl ?_
      refine pS (by kernel_rfl : opAt F31.o1 7 = some (some 16, .call { callee := .builtin .len, args := #[(.tmp 15)], argTypes := #[28] }, (some (5, false)))) rfl rfl ?_
      refine pS (by kernel_rfl : opAt F31.o1 8 = some (some 17, .binOp .gtr 3 (.tmp 16) (.const (.int .i64 8)) 3, (some (5, false)))) rfl rfl ?_
      refine yS (by kernel_rfl : opAt F31.o1 9 = some (some 18, .pick (.tmp 14) (.const (.bool true)) (.tmp 17), none)) rfl rfl (fun w' hS => val_pick_t rfl rfl) ?_
      exact Sch.nil (hcut _ _ _ (Stp.refl _ _ _) rfl (by rw [decide_eq_true (by omega)]) (sub_skip rfl (sub_skip rfl (sub_skip rfl (sub_skip rfl (sub_skip rfl (sub_skip rfl (sub_skip rfl (sub_skip rfl (sub_skip rfl (sub_skip rfl (Sub.refl _))))))))))))
    · skip
      refine run_plain (id := 1) (ops := F31.o1) [(0, true), (1, true), (2, true), (3, true), (4, true), (5, true), (6, true), (7, true), (8, true), (9, true)] (by kernel_rfl) (by kernel_rfl) ?_
      refine yS (by kernel_rfl : opAt F31.o1 0 = some (some 9, .move (.tmp 0), none)) rfl rfl (fun w' hS => val_move rfl) ?_
      have hla := ha.le
      have hlb := hb.le
      refine yS (by kernel_rfl : opAt F31.o1 1 = some (some 10, .call { callee := .builtin .len, args := #[(.tmp 9)], argTypes := #[28] }, none)) rfl rfl (fun w' hS => ha.lenV rfl Try.underlying28 w' ) ?_
      refine yS (by kernel_rfl : opAt F31.o1 2 = some (some 11, .move (.tmp 1), none)) rfl rfl (fun w' hS => val_move rfl) ?_
      refine yS (by kernel_rfl : opAt F31.o1 3 = some (some 12, .call { callee := .builtin .len, args := #[(.tmp 11)], argTypes := #[28] }, none)) rfl rfl (fun w' hS => hb.lenV rfl Try.underlying28 w' ) ?_
      refine yS (by kernel_rfl : opAt F31.o1 4 = some (some 13, .binOp .neq 3 (.tmp 10) (.tmp 12) 3, none)) rfl rfl (fun w' hS => val_F (val_neq rfl rfl) hA) ?_
      refine yS (by kernel_rfl : opAt F31.o1 5 = some (some 14, .move (.tmp 13), none)) rfl rfl (fun w' hS => val_move rfl) ?_
      refine yS (by kernel_rfl : opAt F31.o1 6 = some (some 15, .move (.tmp 0), (some (5, false)))) rfl rfl (fun w' hS => val_move rfl) ?_
      refine yS (by kernel_rfl : opAt F31.o1 7 = some (some 16, .call { callee := .builtin .len, args := #[(.tmp 15)], argTypes := #[28] }, (some (5, false)))) rfl rfl (fun w' hS => ha.lenV rfl Try.underlying28 w' ) ?_
      refine yS (by kernel_rfl : opAt F31.o1 8 = some (some 17, .binOp .gtr 3 (.tmp 16) (.const (.int .i64 8)) 3, (some (5, false)))) rfl rfl (fun w' hS => val_gtr rfl rfl) ?_
      refine yS (by kernel_rfl : opAt F31.o1 9 = some (some 18, .pick (.tmp 14) (.const (.bool true)) (.tmp 17), none)) rfl rfl (fun w' hS => val_pick_f rfl rfl) ?_
      exact Sch.nil (hcut _ _ _ (Stp.refl _ _ _) rfl (by congr 1; apply decide_eq_decide.2; omega) (sub_skip rfl (sub_skip rfl (sub_skip rfl (sub_skip rfl (sub_skip rfl (sub_skip rfl (sub_skip rfl (sub_skip rfl (sub_skip rfl (sub_skip rfl (Sub.refl _))))))))))))
  intro w1 hs
  replace hF := hF.st hs
  replace hT := hT.trans hs (by simp)
  replace ha := ha.st hs (by first | decide | (simp <;> omega))
  replace hb := hb.st hs (by first | decide | (simp <;> omega))
  refine run_if (x := F31.c6) (y := F31.c9) (o := .tmp 18) (by kernel_rfl) rfl (fun h18 => ?_) (fun h18 => ?_)
  · skip
    refine run_seq (x := F31.c7) (y := F31.c8) (by kernel_rfl) ?_
    refine run_plain (id := 2) (ops := F31.o2) [(0, true)] (by kernel_rfl) (by kernel_rfl) ?_
    refine yS (by kernel_rfl : opAt F31.o2 0 = some (some 6, .assign (.const (.int .i64 8)), none)) rfl rfl (fun w' hS => val_assign rfl) ?_
    refine Sch.nil ?_
    refine run_ret1 (by kernel_rfl) Try.func31 Try.results31 rfl ?_
    have hout := hT.out1 (by decide)
    exact ⟨by unfold checkM; rw [if_pos h18], hout⟩
  · skip
    have hlen : a.length = b.length := by omega
    have h8 : a.length ≤ 8 := by omega
    refine run_skip (by kernel_rfl) ?_
    refine run_seq (x := F31.c11) (y := F31.c35) (by kernel_rfl) ?_
    refine run_seq (x := F31.c12) (y := F31.c13) (by kernel_rfl) ?_
    refine run_plain (id := 3) (ops := F31.o3) [(0, true), (1, true), (2, true)] (by kernel_rfl) (by kernel_rfl) ?_
    refine yS (by kernel_rfl : opAt F31.o3 0 = some (some 19, .move (.tmp 0), none)) rfl rfl (fun w' hS => val_move rfl) ?_
    refine yS (by kernel_rfl : opAt F31.o3 1 = some (some 20, .call { callee := .builtin .len, args := #[(.tmp 19)], argTypes := #[28] }, none)) rfl rfl (fun w' hS => ha.lenV rfl Try.underlying28 w' ) ?_
    refine yS (by kernel_rfl : opAt F31.o3 2 = some (some 21, .move (.const (.int .i64 0)), none)) rfl rfl (fun w' hS => val_move rfl) ?_
    refine Sch.nil ?_
    refine run_block (x := F31.c14) (id := 0) (by kernel_rfl) ?_
    refine run_loop (ι := Nat × (Nat → Nat)) (I := fun x w => x.1 ≤ a.length ∧ Lim w x.2 ∧ Stp [2, 3, 4, 5, 6, 7, 8, 9] w₀ (col1 C) w x.2 ∧ RV w (Mc x.2) a va ∧ RV w (Mc x.2) b vb ∧ checkF (a.drop x.1) (b.drop x.1) = checkF a b) (e := fun x => [(0, va), (1, vb), (2, .int .i64 mask), (20, .int .i64 a.length), (21, .int .i64 x.1)]) (m := fun x => a.length - x.1) (x₀ := (0, col1 C)) (body := F31.c15) (by kernel_rfl) (sub_cons 0 rfl rfl (sub_cons 1 rfl rfl (sub_cons 2 rfl rfl (sub_cons 20 rfl rfl (sub_cons 21 rfl rfl (sub_nil _)))))) ?_ ?_
    · exact ⟨Nat.zero_le _, hF, hT, ha, hb, rfl⟩
    intro ⟨i, Ci⟩ w2 hI next
    obtain ⟨hi, hF, hT, ha, hb, hc⟩ := hI
    simp only at hi hF hT ha hb hc
    show Run _ _ _ _ [(0, va), (1, vb), (2, .int .i64 mask), (20, .int .i64 a.length), (21, .int .i64 (i : Int))] _ _
    refine run_seq (x := F31.c16) (y := F31.c17) (by kernel_rfl) ?_
    refine run_plain (id := 4) (ops := F31.o4) [(0, true)] (by kernel_rfl) (by kernel_rfl) ?_
    refine yS (by kernel_rfl : opAt F31.o4 0 = some (some 22, .binOp .lss 3 (.tmp 21) (.tmp 20) 3, none)) rfl rfl (fun w' hS => val_lss rfl rfl) ?_
    refine Sch.nil ?_
    refine run_seq (x := F31.c18) (y := F31.c21) (by kernel_rfl) ?_
    refine run_if (x := F31.c19) (y := F31.c20) (o := .tmp 22) (by kernel_rfl) rfl (fun h22 => ?_) (fun h22 => ?_)
    · skip
      have hil : i < a.length := by omega
      have hilb : i < b.length := by omega
      rw [checkF_drop hil hilb] at hc
      refine run_skip (by kernel_rfl) ?_
      refine run_seq (x := F31.c22) (y := F31.c34) (by kernel_rfl) ?_
      refine run_block (x := F31.c23) (id := 1) (by kernel_rfl) ?_
      refine run_seq (x := F31.c24) (y := F31.c25) (by kernel_rfl) ?_
      refine run_plain (id := 5) (ops := F31.o5) [(0, true), (1, true)] (by kernel_rfl) (by kernel_rfl) ?_
      refine yS (by kernel_rfl : opAt F31.o5 0 = some (some 23, .move (.tmp 21), none)) rfl rfl (fun w' hS => val_move rfl) ?_
      refine yS (by kernel_rfl : opAt F31.o5 1 = some (some 7, .assign (.tmp 23), none)) rfl rfl (fun w' hS => val_assign rfl) ?_
      refine Sch.nil ?_
      refine run_seq (x := F31.c26) (y := F31.c27) (by kernel_rfl) ?_
      refine run_draw (id := 6) (ops := F31.o6) [] (Ci) [(0, true), (1, true), (2, true), (3, true), (5, true), (6, true), (7, true), (8, true), (4, false), (9, false), (10, false), (11, false), (12, true)] Try_mixed (by kernel_rfl) (by kernel_rfl) (by kernel_rfl) ?_
      intro w3 hs
      replace hF := hF.st hs
      replace hT := hT.trans hs (by simp)
      replace ha := ha.st hs (by first | decide | (simp <;> omega))
      replace hb := hb.st hs (by first | decide | (simp <;> omega))
      have hR := Stp.refl [] w3 (Ci)
      refine yS (by kernel_rfl : opAt F31.o6 0 = some (some 24, .move (.tmp 0), none)) rfl rfl (fun w' hS => val_move rfl) ?_
      refine yS (by kernel_rfl : opAt F31.o6 1 = some (some 25, .move (.tmp 7), none)) rfl rfl (fun w' hS => val_move rfl) ?_
      refine iS (e := 39) (by kernel_rfl : opAt F31.o6 2 = some (some 26, .indexAddr 28 (.tmp 24) (.tmp 25), none)) rfl rfl ha rfl (by kernel_rfl) rfl (by omega) (by omega) ?_
      intro b26 o26 h26
      try simp only [Int.toNat_natCast] at h26
      refine lS (by kernel_rfl : opAt F31.o6 3 = some (some 27, .load 39 (.tmp 26), none)) rfl rfl (fun w' hS => h26.stay hS (by first | decide | (simp <;> omega))) h26 (by kernel_rfl) rfl rfl ?_
      intro v27 g27
      refine yS (by kernel_rfl : opAt F31.o6 5 = some (some 29, .move (.tmp 1), none)) rfl rfl (fun w' hS => val_move rfl) ?_
      refine yS (by kernel_rfl : opAt F31.o6 6 = some (some 30, .move (.tmp 7), none)) rfl rfl (fun w' hS => val_move rfl) ?_
      refine iS (e := 39) (by kernel_rfl : opAt F31.o6 7 = some (some 31, .indexAddr 28 (.tmp 29) (.tmp 30), none)) rfl rfl hb rfl (by kernel_rfl) rfl (by omega) (by omega) ?_
      intro b31 o31 h31
      try simp only [Int.toNat_natCast] at h31
      refine lS (by kernel_rfl : opAt F31.o6 8 = some (some 32, .load 39 (.tmp 31), none)) rfl rfl (fun w' hS => h31.stay hS (by first | decide | (simp <;> omega))) h31 (by kernel_rfl) rfl rfl ?_
      intro v32 g32
      refine cS (by kernel_rfl : opAt F31.o6 4 = some (some 28, .call { callee := .value (.func 21), args := #[(.tmp 27)], argTypes := #[39] }, none)) rfl rfl (ent Try.call21 rfl) (check_ok hF g27 (by simpa using hsa _ (List.getElem_mem _))) ?_
      rintro vw4 w4 ⟨rfl, hs⟩
      refine ⟨(hR.trans hs (by simp)).ext, ?_⟩
      replace hF := hF.st hs
      replace hT := hT.trans hs (by simp)
      replace ha := ha.st hs (by first | decide | (simp <;> omega))
      replace hb := hb.st hs (by first | decide | (simp <;> omega))
      replace hR := hR.trans hs (by simp)
      replace h26 := h26.st hs (by first | decide | (simp <;> omega))
      replace g27 := g27.st hs (by first | decide | (simp <;> omega))
      replace h31 := h31.st hs (by first | decide | (simp <;> omega))
      replace g32 := g32.st hs (by first | decide | (simp <;> omega))
      refine cS (by kernel_rfl : opAt F31.o6 9 = some (some 33, .call { callee := .value (.func 21), args := #[(.tmp 32)], argTypes := #[39] }, none)) rfl rfl (ent Try.call21 rfl) (check_ok hF g32 (by simpa using hsb _ (List.getElem_mem _))) ?_
      rintro vw5 w5 ⟨rfl, hs⟩
      refine ⟨(hR.trans hs (by simp)).ext, ?_⟩
      replace hF := hF.st hs
      replace hT := hT.trans hs (by simp)
      replace ha := ha.st hs (by first | decide | (simp <;> omega))
      replace hb := hb.st hs (by first | decide | (simp <;> omega))
      replace hR := hR.trans hs (by simp)
      replace h26 := h26.st hs (by first | decide | (simp <;> omega))
      replace g27 := g27.st hs (by first | decide | (simp <;> omega))
      replace h31 := h31.st hs (by first | decide | (simp <;> omega))
      replace g32 := g32.st hs (by first | decide | (simp <;> omega))
      refine aS (by kernel_rfl : opAt F31.o6 10 = some (some 34, .buildSlice 77 2 #[(0, (.tmp 28)), (1, (.tmp 33))], none)) rfl rfl (a_buildSlice (ys := ([checkS (a[i]'hil), checkS (b[i]'hilb)] : List Int)) (e := 31) (bytes := 8) hF (by kernel_rfl) rfl (by decide) (by decide) ⟨rfl, ⟨_, rfl, rv_int.2 rfl⟩, rfl, ⟨_, rfl, rv_int.2 rfl⟩, trivial⟩) ?_
      rintro v34 w6 ⟨hs, g34, hF⟩
      refine ⟨(hR.trans hs (by simp)).ext, ?_⟩
      replace hT := hT.trans hs (by simp)
      replace ha := ha.st hs (by first | decide | (simp <;> omega))
      replace hb := hb.st hs (by first | decide | (simp <;> omega))
      replace hR := hR.trans hs (by simp)
      replace h26 := h26.st hs (by first | decide | (simp <;> omega))
      replace g27 := g27.st hs (by first | decide | (simp <;> omega))
      replace h31 := h31.st hs (by first | decide | (simp <;> omega))
      replace g32 := g32.st hs (by first | decide | (simp <;> omega))
      refine cS (by kernel_rfl : opAt F31.o6 11 = some (some 35, .call { callee := .value (.func 41), args := #[(.tmp 34)], argTypes := #[77] }, none)) rfl rfl (ent Try.call41 rfl) (orE_ok g34) ?_
      rintro vw7 w7 ⟨rfl, rfl⟩
      refine ⟨hR.ext, ?_⟩
      refine yS (by kernel_rfl : opAt F31.o6 12 = some (some 8, .assign (.tmp 35), none)) rfl rfl (fun w' hS => val_assign rfl) ?_
      refine Sch.nil ?_
      refine run_seq (x := F31.c28) (y := F31.c29) (by kernel_rfl) ?_
      refine run_plain (id := 7) (ops := F31.o7) [(0, true), (1, true)] (by kernel_rfl) (by kernel_rfl) ?_
      refine yS (by kernel_rfl : opAt F31.o7 0 = some (some 36, .move (.tmp 8), none)) rfl rfl (fun w' hS => val_move rfl) ?_
      refine yS (by kernel_rfl : opAt F31.o7 1 = some (some 37, .binOp .neq 31 (.tmp 36) (.const (.int .i64 0)) 31, none)) rfl rfl (fun w' hS => val_neq rfl rfl) ?_
      refine Sch.nil ?_
      refine run_if (x := F31.c30) (y := F31.c33) (o := .tmp 37) (by kernel_rfl) rfl (fun h37 => ?_) (fun h37 => ?_)
      · skip
        rw [if_neg h37] at hc
        have hcm : checkM a b mask = orL [checkS a[i], checkS b[i]] := by unfold checkM; rw [if_neg h18, ← hc]; simp only; rw [if_pos h37]
        refine run_seq (x := F31.c31) (y := F31.c32) (by kernel_rfl) ?_
        refine run_plain (id := 8) (ops := F31.o8) [(0, true), (1, true)] (by kernel_rfl) (by kernel_rfl) ?_
        refine yS (by kernel_rfl : opAt F31.o8 0 = some (some 38, .move (.tmp 8), none)) rfl rfl (fun w' hS => val_move rfl) ?_
        refine yS (by kernel_rfl : opAt F31.o8 1 = some (some 6, .assign (.tmp 38), none)) rfl rfl (fun w' hS => val_assign rfl) ?_
        refine Sch.nil ?_
        refine run_ret1 (by kernel_rfl) Try.func31 Try.results31 rfl ?_
        have hout := hT.out1 (by decide)
        exact ⟨by rw [hcm], hout⟩
      · skip
        have h37 : orL [checkS a[i], checkS b[i]] = 0 := by simpa using h37
        rw [if_pos h37] at hc
        refine run_skip (by kernel_rfl) ?_
        refine run_inBlock ?_
        refine run_plain (id := 9) (ops := F31.o9) [(0, true), (1, true)] (by kernel_rfl) (by kernel_rfl) ?_
        refine yS (by kernel_rfl : opAt F31.o9 0 = some (some 39, .binOp .add 3 (.tmp 21) (.const (.int .i64 1)) 3, none)) rfl rfl (fun w' hS => val_addi rfl rfl (by omega) (by omega)) ?_
        refine yS (by kernel_rfl : opAt F31.o9 1 = some (some 21, .move (.tmp 39), none)) rfl rfl (fun w' hS => val_move rfl) ?_
        refine Sch.nil ?_
        refine kp ?_ (next (i + 1, Ci) _ ⟨by simp only; omega, hF, hT, ha, hb, hc⟩ (by simp only; omega))
        exact sub_cons 0 rfl rfl (sub_cons 1 rfl rfl (sub_cons 2 rfl rfl (sub_cons 20 rfl rfl (sub_cons 21 rfl (eq_int (by simp)) (sub_nil _)))))
    · skip
      have hil : i = a.length := by omega
      subst hil
      rw [List.drop_length] at hc
      have hc0 : checkF a b = 0 := by rw [← hc]; simp [checkF]
      refine run_exit (id := 0) (by kernel_rfl) rfl ?_
      refine run_seq (x := F31.c36) (y := F31.c43) (by kernel_rfl) ?_
      refine run_seq (x := F31.c37) (y := F31.c38) (by kernel_rfl) ?_
      refine run_cut 48 (decide (mask < 0 ∨ (2 : Int) ^ a.length ≤ mask)) (Ci) ?_ ?_
      · intro hcut
        by_cases hA : mask < 0
        · skip
          refine run_plain (id := 10) (ops := F31.o10) [(0, true), (1, true), (2, true), (3, true), (4, true), (5, true), (6, true), (7, true), (8, true)] (by kernel_rfl) (by kernel_rfl) ?_
          refine yS (by kernel_rfl : opAt F31.o10 0 = some (some 40, .move (.tmp 2), none)) rfl rfl (fun w' hS => val_move rfl) ?_
          refine yS (by kernel_rfl : opAt F31.o10 1 = some (some 41, .binOp .lss 3 (.tmp 40) (.const (.int .i64 0)) 3, none)) rfl rfl (fun w' hS => val_T (val_lss rfl rfl) hA) ?_
          refine yS (by kernel_rfl : opAt F31.o10 2 = some (some 42, .move (.tmp 41), none)) rfl rfl (fun w' hS => val_move rfl) ?_
          refine pS (by kernel_rfl : opAt F31.o10 3 = some (some 43, .move (.tmp 2), (some (2, false)))) rfl rfl ?_
          refine pS (by kernel_rfl : opAt F31.o10 4 = some (some 44, .move (.tmp 0), (some (2, false)))) rfl rfl ?_
          refine pS (by kernel_rfl : opAt F31.o10 5 = some (some 45, .call { callee := .builtin .len, args := #[(.tmp 44)], argTypes := #[28] }, (some (2, false)))) rfl rfl ?_
          refine pS (by kernel_rfl : opAt F31.o10 6 = some (some 46, .binOp .shl 3 (.const (.int .i64 1)) (.tmp 45) 3, (some (2, false)))) rfl rfl ?_
          refine pS (by kernel_rfl : opAt F31.o10 7 = some (some 47, .binOp .geq 3 (.tmp 43) (.tmp 46) 3, (some (2, false)))) rfl rfl ?_
          refine yS (by kernel_rfl : opAt F31.o10 8 = some (some 48, .pick (.tmp 42) (.const (.bool true)) (.tmp 47), none)) rfl rfl (fun w' hS => val_pick_t rfl rfl) ?_
          exact Sch.nil (hcut _ _ _ (Stp.refl _ _ _) rfl (by rw [decide_eq_true (Or.inl hA)]) (sub_skip rfl (sub_skip rfl (sub_skip rfl (sub_skip rfl (sub_skip rfl (sub_skip rfl (sub_skip rfl (sub_skip rfl (sub_skip rfl (Sub.refl _)))))))))))
        · skip
          refine run_plain (id := 10) (ops := F31.o10) [(0, true), (1, true), (2, true), (3, true), (4, true), (5, true), (6, true), (7, true), (8, true)] (by kernel_rfl) (by kernel_rfl) ?_
          refine yS (by kernel_rfl : opAt F31.o10 0 = some (some 40, .move (.tmp 2), none)) rfl rfl (fun w' hS => val_move rfl) ?_
          refine yS (by kernel_rfl : opAt F31.o10 1 = some (some 41, .binOp .lss 3 (.tmp 40) (.const (.int .i64 0)) 3, none)) rfl rfl (fun w' hS => val_F (val_lss rfl rfl) hA) ?_
          refine yS (by kernel_rfl : opAt F31.o10 2 = some (some 42, .move (.tmp 41), none)) rfl rfl (fun w' hS => val_move rfl) ?_
          refine yS (by kernel_rfl : opAt F31.o10 3 = some (some 43, .move (.tmp 2), (some (2, false)))) rfl rfl (fun w' hS => val_move rfl) ?_
          refine yS (by kernel_rfl : opAt F31.o10 4 = some (some 44, .move (.tmp 0), (some (2, false)))) rfl rfl (fun w' hS => val_move rfl) ?_
          have hp8 : (2 : Int) ^ a.length = ((2 ^ a.length : Nat) : Int) := by simp
          have hpl : 2 ^ a.length ≤ 2 ^ 8 := Nat.pow_le_pow_right (by decide) h8
          refine yS (by kernel_rfl : opAt F31.o10 5 = some (some 45, .call { callee := .builtin .len, args := #[(.tmp 44)], argTypes := #[28] }, (some (2, false)))) rfl rfl (fun w' hS => ha.lenV rfl Try.underlying28 w' ) ?_
          refine yS (by kernel_rfl : opAt F31.o10 6 = some (some 46, .binOp .shl 3 (.const (.int .i64 1)) (.tmp 45) 3, (some (2, false)))) rfl rfl (fun w' hS => val_shlE (r := 2 ^ a.length) rfl rfl (by omega) (shl1 (by omega))) ?_
          refine yS (by kernel_rfl : opAt F31.o10 7 = some (some 47, .binOp .geq 3 (.tmp 43) (.tmp 46) 3, (some (2, false)))) rfl rfl (fun w' hS => val_geq rfl rfl) ?_
          refine yS (by kernel_rfl : opAt F31.o10 8 = some (some 48, .pick (.tmp 42) (.const (.bool true)) (.tmp 47), none)) rfl rfl (fun w' hS => val_pick_f rfl rfl) ?_
          exact Sch.nil (hcut _ _ _ (Stp.refl _ _ _) rfl (by congr 1; apply decide_eq_decide.2; omega) (sub_skip rfl (sub_skip rfl (sub_skip rfl (sub_skip rfl (sub_skip rfl (sub_skip rfl (sub_skip rfl (sub_skip rfl (sub_skip rfl (Sub.refl _)))))))))))
      intro w8 hs
      replace hF := hF.st hs
      replace hT := hT.trans hs (by simp)
      replace ha := ha.st hs (by first | decide | (simp <;> omega))
      replace hb := hb.st hs (by first | decide | (simp <;> omega))
      refine run_if (x := F31.c39) (y := F31.c42) (o := .tmp 48) (by kernel_rfl) rfl (fun h48 => ?_) (fun h48 => ?_)
      · skip
        refine run_seq (x := F31.c40) (y := F31.c41) (by kernel_rfl) ?_
        refine run_plain (id := 11) (ops := F31.o11) [(0, true)] (by kernel_rfl) (by kernel_rfl) ?_
        refine yS (by kernel_rfl : opAt F31.o11 0 = some (some 6, .assign (.const (.int .i64 2)), none)) rfl rfl (fun w' hS => val_assign rfl) ?_
        refine Sch.nil ?_
        refine run_ret1 (by kernel_rfl) Try.func31 Try.results31 rfl ?_
        have hout := hT.out1 (by decide)
        exact ⟨by unfold checkM; rw [if_neg h18, hc0]; simp only; rw [if_neg (by simp), if_pos h48], hout⟩
      · skip
        refine run_skip (by kernel_rfl) ?_
        refine run_seq (x := F31.c44) (y := F31.c45) (by kernel_rfl) ?_
        refine run_plain (id := 12) (ops := F31.o12) [(0, true)] (by kernel_rfl) (by kernel_rfl) ?_
        refine yS (by kernel_rfl : opAt F31.o12 0 = some (some 6, .assign (.const (.int .i64 0)), none)) rfl rfl (fun w' hS => val_assign rfl) ?_
        refine Sch.nil ?_
        refine run_ret1 (by kernel_rfl) Try.func31 Try.results31 rfl ?_
        have hout := hT.out1 (by decide)
        exact ⟨by unfold checkM; rw [if_neg h18, hc0]; simp only; rw [if_neg (by simp), if_neg h48], hout⟩
end Go.Proofs.Ytejbklahkkjmhaa
