/- Steps through functions of the program. -/
import Derived.Test.YtgooehopkmbkfaaJT8
import Derived.Test.YtgooehopkmbkfaaL2
set_option linter.unusedVariables false
set_option linter.unusedSimpArgs false
set_option maxRecDepth 100000
set_option maxHeartbeats 4000000
namespace Go.Proofs.Ytgooehopkmbkfaa
open Go.K Go.K.Rep

namespace F43
noncomputable def c0 : Code := bodyOf Try.f43
noncomputable def c1 : Code := cl c0
noncomputable def o0 : Array Oper := rops c1
noncomputable def c2 : Code := cr c0
noncomputable def c3 : Code := cl c2
noncomputable def o1 : Array Oper := rops c3
noncomputable def c4 : Code := cr c2
noncomputable def c5 : Code := cl c4
noncomputable def c6 : Code := cl c5
noncomputable def o2 : Array Oper := rops c6
noncomputable def c7 : Code := cr c5
noncomputable def c8 : Code := cl c7
noncomputable def c9 : Code := cl c8
noncomputable def c10 : Code := cl c9
noncomputable def o3 : Array Oper := rops c10
noncomputable def c11 : Code := cr c9
noncomputable def c12 : Code := cl c11
noncomputable def c13 : Code := cl c12
noncomputable def c14 : Code := cr c12
noncomputable def c15 : Code := cr c11
noncomputable def c16 : Code := cl c15
noncomputable def c17 : Code := cl c16
noncomputable def c18 : Code := cl c17
noncomputable def o4 : Array Oper := rops c18
noncomputable def c19 : Code := cr c17
noncomputable def c20 : Code := cl c19
noncomputable def o5 : Array Oper := rops c20
noncomputable def c21 : Code := cr c19
noncomputable def c22 : Code := cl c21
noncomputable def c23 : Code := cl c22
noncomputable def o6 : Array Oper := rops c23
noncomputable def c24 : Code := cr c22
noncomputable def c25 : Code := cr c21
noncomputable def c26 : Code := cr c15
noncomputable def o7 : Array Oper := rops c26
noncomputable def c27 : Code := cr c4
noncomputable def c28 : Code := cl c27
noncomputable def o8 : Array Oper := rops c28
noncomputable def c29 : Code := cr c27
end F43
/-- 'cmp.Or'. -/
theorem orI_ok {w₀ : World} {M : Nat → Prop} {l : List Int} {vl : Value} (hl : RV w₀ M l vl) : Calls Try.prog 43 #[vl] w₀ (Ret fun v w' => v = .int .i64 (orL l) ∧ w' = w₀) := by
  refine calls_start (c := F43.c0) (N := 18) [vl] Try.func43 (by kernel_rfl) (by kernel_rfl) (by kernel_rfl) ?_
  show Run _ _ _ _ [(0, vl)] _ _
  refine run_seq (x := F43.c1) (y := F43.c2) (by kernel_rfl) ?_
  refine run_plain (id := 0) (ops := F43.o0) [(0, true)] (by kernel_rfl) (by kernel_rfl) ?_
  refine yS (by kernel_rfl : opAt F43.o0 0 = some (some 2, .assign (.const (.int .i64 0)), none)) rfl rfl (fun w' hS => val_assign rfl) ?_
  refine Sch.nil ?_
  refine run_seq (x := F43.c3) (y := F43.c4) (by kernel_rfl) ?_
  refine run_plain (id := 1) (ops := F43.o1) [(0, true)] (by kernel_rfl) (by kernel_rfl) ?_
  refine yS (by kernel_rfl : opAt F43.o1 0 = some (some 3, .assign (.const (.int .i64 0)), none)) rfl rfl (fun w' hS => val_assign rfl) ?_
  refine Sch.nil ?_
  refine run_seq (x := F43.c5) (y := F43.c27) (by kernel_rfl) ?_
  refine run_seq (x := F43.c6) (y := F43.c7) (by kernel_rfl) ?_
  refine run_plain (id := 2) (ops := F43.o2) [(0, true), (1, true), (2, true)] (by kernel_rfl) (by kernel_rfl) ?_
  refine yS (by kernel_rfl : opAt F43.o2 0 = some (some 6, .move (.tmp 0), none)) rfl rfl (fun w' hS => val_move rfl) ?_
  refine yS (by kernel_rfl : opAt F43.o2 1 = some (some 7, .call { callee := .builtin .len, args := #[(.tmp 6)], argTypes := #[22] }, none)) rfl rfl (fun w' hS => hl.lenV rfl Try.underlying22 w' ) ?_
  refine yS (by kernel_rfl : opAt F43.o2 2 = some (some 8, .move (.const (.int .i64 0)), none)) rfl rfl (fun w' hS => val_move rfl) ?_
  refine Sch.nil ?_
  refine run_block (x := F43.c8) (id := 0) (by kernel_rfl) ?_
  refine run_loop (ι := Nat) (I := fun x w => x ≤ l.length ∧ w = w₀ ∧ orL (l.drop x) = orL l) (e := fun x => [(3, .int .i64 0), (6, vl), (7, .int .i64 l.length), (8, .int .i64 x)]) (m := fun x => l.length - x) (x₀ := 0) (body := F43.c9) (by kernel_rfl) (sub_cons 3 rfl rfl (sub_cons 6 rfl rfl (sub_cons 7 rfl rfl (sub_cons 8 rfl rfl (sub_nil _))))) ?_ ?_
  · exact ⟨Nat.zero_le _, rfl, rfl⟩
  intro i w1 hI next
  obtain ⟨hi, rfl, ho⟩ := hI
  have hll := hl.le
  refine run_seq (x := F43.c10) (y := F43.c11) (by kernel_rfl) ?_
  refine run_plain (id := 3) (ops := F43.o3) [(0, true)] (by kernel_rfl) (by kernel_rfl) ?_
  refine yS (by kernel_rfl : opAt F43.o3 0 = some (some 9, .binOp .lss 3 (.tmp 8) (.tmp 7) 3, none)) rfl rfl (fun w' hS => val_lss rfl rfl) ?_
  refine Sch.nil ?_
  refine run_seq (x := F43.c12) (y := F43.c15) (by kernel_rfl) ?_
  refine run_if (x := F43.c13) (y := F43.c14) (o := .tmp 9) (by kernel_rfl) rfl (fun h9 => ?_) (fun h9 => ?_)
  · skip
    have hil : i < l.length := by omega
    rw [orL_drop hil] at ho
    refine run_skip (by kernel_rfl) ?_
    refine run_seq (x := F43.c16) (y := F43.c26) (by kernel_rfl) ?_
    refine run_block (x := F43.c17) (id := 1) (by kernel_rfl) ?_
    refine run_seq (x := F43.c18) (y := F43.c19) (by kernel_rfl) ?_
    refine run_plain (id := 4) (ops := F43.o4) [(0, true), (1, false), (2, true)] (by kernel_rfl) (by kernel_rfl) ?_
    refine iS (e := 3) (by kernel_rfl : opAt F43.o4 0 = some (some 10, .indexAddr 22 (.tmp 6) (.tmp 8), none)) rfl rfl hl rfl (by kernel_rfl) rfl (by omega) (by omega) ?_
    intro b10 o10 h10
    try simp only [Int.toNat_natCast] at h10
    refine lN (by kernel_rfl : opAt F43.o4 1 = some (some 11, .load 3 (.tmp 10), none)) rfl rfl trivial h10 (by kernel_rfl) rfl rfl ?_
    intro v11 g11
    first | (obtain rfl := rv_nat.1 g11) | (obtain rfl := rv_int.1 g11)
    refine yS (by kernel_rfl : opAt F43.o4 2 = some (some 5, .assign (.tmp 11), none)) rfl rfl (fun w' hS => val_assign rfl) ?_
    refine Sch.nil ?_
    refine run_seq (x := F43.c20) (y := F43.c21) (by kernel_rfl) ?_
    refine run_plain (id := 5) (ops := F43.o5) [(0, true), (1, true), (2, true)] (by kernel_rfl) (by kernel_rfl) ?_
    refine yS (by kernel_rfl : opAt F43.o5 0 = some (some 12, .move (.tmp 5), none)) rfl rfl (fun w' hS => val_move rfl) ?_
    refine yS (by kernel_rfl : opAt F43.o5 1 = some (some 13, .move (.tmp 3), none)) rfl rfl (fun w' hS => val_move rfl) ?_
    refine yS (by kernel_rfl : opAt F43.o5 2 = some (some 14, .binOp .neq 3 (.tmp 12) (.tmp 13) 3, none)) rfl rfl (fun w' hS => val_neq rfl rfl) ?_
    refine Sch.nil ?_
    refine run_if (x := F43.c22) (y := F43.c25) (o := .tmp 14) (by kernel_rfl) rfl (fun h14 => ?_) (fun h14 => ?_)
    · skip
      rw [if_neg h14] at ho
      refine run_seq (x := F43.c23) (y := F43.c24) (by kernel_rfl) ?_
      refine run_plain (id := 6) (ops := F43.o6) [(0, true), (1, true)] (by kernel_rfl) (by kernel_rfl) ?_
      refine yS (by kernel_rfl : opAt F43.o6 0 = some (some 15, .move (.tmp 5), none)) rfl rfl (fun w' hS => val_move rfl) ?_
      refine yS (by kernel_rfl : opAt F43.o6 1 = some (some 2, .assign (.tmp 15), none)) rfl rfl (fun w' hS => val_assign rfl) ?_
      refine Sch.nil ?_
      refine run_ret1 (by kernel_rfl) Try.func43 Try.results43 rfl ?_
      exact ⟨by rw [ho], rfl⟩
    · skip
      have h14 : l[i] = 0 := by simpa using h14
      rw [if_pos h14] at ho
      refine run_skip (by kernel_rfl) ?_
      refine run_inBlock ?_
      refine run_plain (id := 7) (ops := F43.o7) [(0, true), (1, true)] (by kernel_rfl) (by kernel_rfl) ?_
      refine yS (by kernel_rfl : opAt F43.o7 0 = some (some 16, .binOp .add 3 (.tmp 8) (.const (.int .i64 1)) 3, none)) rfl rfl (fun w' hS => val_addi rfl rfl (by omega) (by omega)) ?_
      refine yS (by kernel_rfl : opAt F43.o7 1 = some (some 8, .move (.tmp 16), none)) rfl rfl (fun w' hS => val_move rfl) ?_
      refine Sch.nil ?_
      refine kp ?_ (next (i + 1) _ ⟨by omega, rfl, ho⟩ (by omega))
      exact sub_cons 3 rfl rfl (sub_cons 6 rfl rfl (sub_cons 7 rfl rfl (sub_cons 8 rfl (eq_int (by simp)) (sub_nil _))))
  · skip
    have hil : i = l.length := by omega
    refine run_exit (id := 0) (by kernel_rfl) rfl ?_
    refine run_seq (x := F43.c28) (y := F43.c29) (by kernel_rfl) ?_
    refine run_plain (id := 8) (ops := F43.o8) [(0, true), (1, true)] (by kernel_rfl) (by kernel_rfl) ?_
    refine yS (by kernel_rfl : opAt F43.o8 0 = some (some 17, .move (.tmp 3), none)) rfl rfl (fun w' hS => val_move rfl) ?_
    refine yS (by kernel_rfl : opAt F43.o8 1 = some (some 2, .assign (.tmp 17), none)) rfl rfl (fun w' hS => val_assign rfl) ?_
    refine Sch.nil ?_
    refine run_ret1 (by kernel_rfl) Try.func43 Try.results43 rfl ?_
    subst hil
    rw [List.drop_length] at ho
    exact ⟨by rw [← ho]; rfl, rfl⟩
namespace F55
noncomputable def c0 : Code := bodyOf Try.f55
noncomputable def c1 : Code := cl c0
noncomputable def o0 : Array Oper := rops c1
noncomputable def c2 : Code := cr c0
noncomputable def c3 : Code := cl c2
noncomputable def o1 : Array Oper := rops c3
noncomputable def c4 : Code := cr c2
end F55
theorem isNaN_ok (x : Int) (w : World) : Calls Try.prog 55 #[.int .i64 x] w (Ret fun v w' => v = .bool false ∧ w' = w) := by
  refine calls_start (c := F55.c0) (N := 6) [.int .i64 x] Try.func55 (by kernel_rfl) (by kernel_rfl) (by kernel_rfl) ?_
  show Run _ _ _ _ [(0, .int .i64 x)] _ _
  refine run_seq (x := F55.c1) (y := F55.c2) (by kernel_rfl) ?_
  refine run_plain (id := 0) (ops := F55.o0) [(0, true)] (by kernel_rfl) (by kernel_rfl) ?_
  refine yS (by kernel_rfl : opAt F55.o0 0 = some (some 2, .assign (.const (.bool false)), none)) rfl rfl (fun w' hS => val_assign rfl) ?_
  refine Sch.nil ?_
  refine run_seq (x := F55.c3) (y := F55.c4) (by kernel_rfl) ?_
  refine run_plain (id := 1) (ops := F55.o1) [(0, true), (1, true), (2, true), (3, true)] (by kernel_rfl) (by kernel_rfl) ?_
  refine yS (by kernel_rfl : opAt F55.o1 0 = some (some 3, .move (.tmp 0), none)) rfl rfl (fun w' hS => val_move rfl) ?_
  refine yS (by kernel_rfl : opAt F55.o1 1 = some (some 4, .move (.tmp 0), none)) rfl rfl (fun w' hS => val_move rfl) ?_
  refine yS (by kernel_rfl : opAt F55.o1 2 = some (some 5, .binOp .neq 3 (.tmp 3) (.tmp 4) 3, none)) rfl rfl (fun w' hS => val_neq rfl rfl) ?_
  refine yS (by kernel_rfl : opAt F55.o1 3 = some (some 2, .assign (.tmp 5), none)) rfl rfl (fun w' hS => val_assign rfl) ?_
  refine Sch.nil ?_
  refine run_ret1 (by kernel_rfl) Try.func55 Try.results55 rfl ?_
  exact ⟨by simp, rfl⟩
namespace F44
noncomputable def c0 : Code := bodyOf Try.f44
noncomputable def c1 : Code := cl c0
noncomputable def o0 : Array Oper := rops c1
noncomputable def c2 : Code := cr c0
noncomputable def c3 : Code := cl c2
noncomputable def o1 : Array Oper := rops c3
noncomputable def c4 : Code := cr c2
noncomputable def c5 : Code := cl c4
noncomputable def o2 : Array Oper := rops c5
noncomputable def c6 : Code := cr c4
noncomputable def c7 : Code := cl c6
noncomputable def c8 : Code := cl c7
noncomputable def o3 : Array Oper := rops c8
noncomputable def c9 : Code := cr c7
noncomputable def c10 : Code := cl c9
noncomputable def c11 : Code := cl c10
noncomputable def c12 : Code := cl c11
noncomputable def o4 : Array Oper := rops c12
noncomputable def c13 : Code := cr c11
noncomputable def c14 : Code := cl c13
noncomputable def c15 : Code := cl c14
noncomputable def o5 : Array Oper := rops c15
noncomputable def c16 : Code := cr c14
noncomputable def c17 : Code := cr c13
noncomputable def c18 : Code := cr c10
noncomputable def c19 : Code := cl c18
noncomputable def o6 : Array Oper := rops c19
noncomputable def c20 : Code := cr c18
noncomputable def c21 : Code := cr c9
noncomputable def c22 : Code := cr c6
noncomputable def c23 : Code := cl c22
noncomputable def c24 : Code := cl c23
noncomputable def o7 : Array Oper := rops c24
noncomputable def c25 : Code := cr c23
noncomputable def c26 : Code := cl c25
noncomputable def c27 : Code := cl c26
noncomputable def o8 : Array Oper := rops c27
noncomputable def c28 : Code := cr c26
noncomputable def c29 : Code := cr c25
noncomputable def c30 : Code := cr c22
noncomputable def c31 : Code := cl c30
noncomputable def c32 : Code := cl c31
noncomputable def o9 : Array Oper := rops c32
noncomputable def c33 : Code := cr c31
noncomputable def c34 : Code := cl c33
noncomputable def c35 : Code := cl c34
noncomputable def o10 : Array Oper := rops c35
noncomputable def c36 : Code := cr c34
noncomputable def c37 : Code := cr c33
noncomputable def c38 : Code := cr c30
noncomputable def c39 : Code := cl c38
noncomputable def c40 : Code := cl c39
noncomputable def o11 : Array Oper := rops c40
noncomputable def c41 : Code := cr c39
noncomputable def c42 : Code := cl c41
noncomputable def c43 : Code := cl c42
noncomputable def o12 : Array Oper := rops c43
noncomputable def c44 : Code := cr c42
noncomputable def c45 : Code := cr c41
noncomputable def c46 : Code := cr c38
noncomputable def c47 : Code := cl c46
noncomputable def o13 : Array Oper := rops c47
noncomputable def c48 : Code := cr c46
end F44
/-- 'cmp.Compare'. -/
theorem cmpI_ok (x y : Int) (w : World) : Calls Try.prog 44 #[.int .i64 x, .int .i64 y] w (Ret fun v w' => v = .int .i64 (cmpI x y) ∧ w' = w) := by
  refine calls_start (c := F44.c0) (N := 20) [.int .i64 x, .int .i64 y] Try.func44 (by kernel_rfl) (by kernel_rfl) (by kernel_rfl) ?_
  show Run _ _ _ _ [(0, .int .i64 x), (1, .int .i64 y)] _ _
  refine run_seq (x := F44.c1) (y := F44.c2) (by kernel_rfl) ?_
  refine run_plain (id := 0) (ops := F44.o0) [(0, true)] (by kernel_rfl) (by kernel_rfl) ?_
  refine yS (by kernel_rfl : opAt F44.o0 0 = some (some 4, .assign (.const (.int .i64 0)), none)) rfl rfl (fun w' hS => val_assign rfl) ?_
  refine Sch.nil ?_
  refine run_seq (x := F44.c3) (y := F44.c4) (by kernel_rfl) ?_
  refine run_plain (id := 1) (ops := F44.o1) [(0, true), (1, false), (2, true)] (by kernel_rfl) (by kernel_rfl) ?_
  refine yS (by kernel_rfl : opAt F44.o1 0 = some (some 7, .move (.tmp 0), none)) rfl rfl (fun w' hS => val_move rfl) ?_
  refine cS (by kernel_rfl : opAt F44.o1 1 = some (some 8, .call { callee := .value (.func 55), args := #[(.tmp 7)], argTypes := #[3] }, none)) rfl rfl (ent Try.call55 rfl) (isNaN_ok _ _) ?_
  rintro vw1 w1 ⟨rfl, rfl⟩
  refine ⟨trivial, ?_⟩
  refine yS (by kernel_rfl : opAt F44.o1 2 = some (some 5, .assign (.tmp 8), none)) rfl rfl (fun w' hS => val_assign rfl) ?_
  refine Sch.nil ?_
  refine run_seq (x := F44.c5) (y := F44.c6) (by kernel_rfl) ?_
  refine run_plain (id := 2) (ops := F44.o2) [(0, true), (1, false), (2, true)] (by kernel_rfl) (by kernel_rfl) ?_
  refine yS (by kernel_rfl : opAt F44.o2 0 = some (some 9, .move (.tmp 1), none)) rfl rfl (fun w' hS => val_move rfl) ?_
  refine cS (by kernel_rfl : opAt F44.o2 1 = some (some 10, .call { callee := .value (.func 55), args := #[(.tmp 9)], argTypes := #[3] }, none)) rfl rfl (ent Try.call55 rfl) (isNaN_ok _ _) ?_
  rintro vw2 w2 ⟨rfl, rfl⟩
  refine ⟨trivial, ?_⟩
  refine yS (by kernel_rfl : opAt F44.o2 2 = some (some 6, .assign (.tmp 10), none)) rfl rfl (fun w' hS => val_assign rfl) ?_
  refine Sch.nil ?_
  refine run_seq (x := F44.c7) (y := F44.c22) (by kernel_rfl) ?_
  refine run_seq (x := F44.c8) (y := F44.c9) (by kernel_rfl) ?_
  refine run_plain (id := 3) (ops := F44.o3) [(0, true)] (by kernel_rfl) (by kernel_rfl) ?_
  refine yS (by kernel_rfl : opAt F44.o3 0 = some (some 11, .move (.tmp 5), none)) rfl rfl (fun w' hS => val_move rfl) ?_
  refine Sch.nil ?_
  refine run_cond (x := F44.c10) (y := F44.c21) (o := .tmp 11) (b := false) (by kernel_rfl) rfl (fun h => by cases h) (fun _ => ?_)
  refine run_skip (by kernel_rfl) ?_
  refine run_seq (x := F44.c23) (y := F44.c30) (by kernel_rfl) ?_
  refine run_seq (x := F44.c24) (y := F44.c25) (by kernel_rfl) ?_
  refine run_plain (id := 7) (ops := F44.o7) [(0, true)] (by kernel_rfl) (by kernel_rfl) ?_
  refine yS (by kernel_rfl : opAt F44.o7 0 = some (some 13, .move (.tmp 6), none)) rfl rfl (fun w' hS => val_move rfl) ?_
  refine Sch.nil ?_
  refine run_cond (x := F44.c26) (y := F44.c29) (o := .tmp 13) (b := false) (by kernel_rfl) rfl (fun h => by cases h) (fun _ => ?_)
  refine run_skip (by kernel_rfl) ?_
  refine run_seq (x := F44.c31) (y := F44.c38) (by kernel_rfl) ?_
  refine run_seq (x := F44.c32) (y := F44.c33) (by kernel_rfl) ?_
  refine run_plain (id := 9) (ops := F44.o9) [(0, true), (1, true), (2, true)] (by kernel_rfl) (by kernel_rfl) ?_
  refine yS (by kernel_rfl : opAt F44.o9 0 = some (some 14, .move (.tmp 0), none)) rfl rfl (fun w' hS => val_move rfl) ?_
  refine yS (by kernel_rfl : opAt F44.o9 1 = some (some 15, .move (.tmp 1), none)) rfl rfl (fun w' hS => val_move rfl) ?_
  refine yS (by kernel_rfl : opAt F44.o9 2 = some (some 16, .binOp .lss 3 (.tmp 14) (.tmp 15) 3, none)) rfl rfl (fun w' hS => val_lss rfl rfl) ?_
  refine Sch.nil ?_
  refine run_if (x := F44.c34) (y := F44.c37) (o := .tmp 16) (by kernel_rfl) rfl (fun h16 => ?_) (fun h16 => ?_)
  · skip
    refine run_seq (x := F44.c35) (y := F44.c36) (by kernel_rfl) ?_
    refine run_plain (id := 10) (ops := F44.o10) [(0, true)] (by kernel_rfl) (by kernel_rfl) ?_
    refine yS (by kernel_rfl : opAt F44.o10 0 = some (some 4, .assign (.const (.int .i64 (-1))), none)) rfl rfl (fun w' hS => val_assign rfl) ?_
    refine Sch.nil ?_
    refine run_ret1 (by kernel_rfl) Try.func44 Try.results44 rfl ?_
    exact ⟨eq_int (by unfold cmpI; split <;> (try split) <;> omega), rfl⟩
  · skip
    refine run_skip (by kernel_rfl) ?_
    refine run_seq (x := F44.c39) (y := F44.c46) (by kernel_rfl) ?_
    refine run_seq (x := F44.c40) (y := F44.c41) (by kernel_rfl) ?_
    refine run_plain (id := 11) (ops := F44.o11) [(0, true), (1, true), (2, true)] (by kernel_rfl) (by kernel_rfl) ?_
    refine yS (by kernel_rfl : opAt F44.o11 0 = some (some 17, .move (.tmp 0), none)) rfl rfl (fun w' hS => val_move rfl) ?_
    refine yS (by kernel_rfl : opAt F44.o11 1 = some (some 18, .move (.tmp 1), none)) rfl rfl (fun w' hS => val_move rfl) ?_
    refine yS (by kernel_rfl : opAt F44.o11 2 = some (some 19, .binOp .gtr 3 (.tmp 17) (.tmp 18) 3, none)) rfl rfl (fun w' hS => val_gtr rfl rfl) ?_
    refine Sch.nil ?_
    refine run_if (x := F44.c42) (y := F44.c45) (o := .tmp 19) (by kernel_rfl) rfl (fun h19 => ?_) (fun h19 => ?_)
    · skip
      refine run_seq (x := F44.c43) (y := F44.c44) (by kernel_rfl) ?_
      refine run_plain (id := 12) (ops := F44.o12) [(0, true)] (by kernel_rfl) (by kernel_rfl) ?_
      refine yS (by kernel_rfl : opAt F44.o12 0 = some (some 4, .assign (.const (.int .i64 1)), none)) rfl rfl (fun w' hS => val_assign rfl) ?_
      refine Sch.nil ?_
      refine run_ret1 (by kernel_rfl) Try.func44 Try.results44 rfl ?_
      exact ⟨eq_int (by unfold cmpI; split <;> (try split) <;> omega), rfl⟩
    · skip
      refine run_skip (by kernel_rfl) ?_
      refine run_seq (x := F44.c47) (y := F44.c48) (by kernel_rfl) ?_
      refine run_plain (id := 13) (ops := F44.o13) [(0, true)] (by kernel_rfl) (by kernel_rfl) ?_
      refine yS (by kernel_rfl : opAt F44.o13 0 = some (some 4, .assign (.const (.int .i64 0)), none)) rfl rfl (fun w' hS => val_assign rfl) ?_
      refine Sch.nil ?_
      refine run_ret1 (by kernel_rfl) Try.func44 Try.results44 rfl ?_
      exact ⟨eq_int (by unfold cmpI; split <;> (try split) <;> omega), rfl⟩
namespace F30
noncomputable def c0 : Code := bodyOf Try.f30
noncomputable def c1 : Code := cl c0
noncomputable def o0 : Array Oper := rops c1
noncomputable def c2 : Code := cr c0
noncomputable def c3 : Code := cl c2
noncomputable def o1 : Array Oper := rops c3
noncomputable def c4 : Code := cr c2
end F30
/-- 'side'. -/
theorem side_ok {w₀ : World} {C : Nat → Nat} (x : Int) (hF : Lim w₀ C) : Calls Try.prog 30 #[.int .i64 x] w₀ (Ret fun v w' => v = .bool (sideB x) ∧ Stp [] w₀ C w' C) := by
  have hF0 := hF
  have hT := Stp.refl [2, 3, 4, 5, 6, 7, 8, 9] w₀ (col1 C)
  replace hF := hF.col1
  refine calls_start (c := F30.c0) (N := 9) [.int .i64 x] Try.func30 (by kernel_rfl) (by kernel_rfl) (by kernel_rfl) ?_
  show Run _ _ _ _ [(0, .int .i64 x)] _ _
  refine run_seq (x := F30.c1) (y := F30.c2) (by kernel_rfl) ?_
  refine run_plain (id := 0) (ops := F30.o0) [(0, true)] (by kernel_rfl) (by kernel_rfl) ?_
  refine yS (by kernel_rfl : opAt F30.o0 0 = some (some 2, .assign (.const (.bool false)), none)) rfl rfl (fun w' hS => val_assign rfl) ?_
  refine Sch.nil ?_
  refine kp (sub_cons 0 rfl rfl (sub_nil _)) ?_
  refine run_seq (x := F30.c3) (y := F30.c4) (by kernel_rfl) ?_
  refine run_cut 2 (sideB x) (col1 C) ?_ ?_
  · intro hcut
    by_cases hA : 0 ≤ x
    · skip
      refine run_plain (id := 1) (ops := F30.o1) [(0, true), (1, true), (2, true), (3, true), (4, true), (5, true), (6, true)] (by kernel_rfl) (by kernel_rfl) ?_
      refine yS (by kernel_rfl : opAt F30.o1 0 = some (some 3, .move (.tmp 0), none)) rfl rfl (fun w' hS => val_move rfl) ?_
      refine yS (by kernel_rfl : opAt F30.o1 1 = some (some 4, .binOp .geq 3 (.tmp 3) (.const (.int .i64 0)) 3, none)) rfl rfl (fun w' hS => val_T (val_geq rfl rfl) hA) ?_
      refine yS (by kernel_rfl : opAt F30.o1 2 = some (some 5, .move (.tmp 4), none)) rfl rfl (fun w' hS => val_move rfl) ?_
      refine yS (by kernel_rfl : opAt F30.o1 3 = some (some 6, .move (.tmp 0), (some (2, true)))) rfl rfl (fun w' hS => val_move rfl) ?_
      refine yS (by kernel_rfl : opAt F30.o1 4 = some (some 7, .binOp .leq 3 (.tmp 6) (.const (.int .i64 64)) 3, (some (2, true)))) rfl rfl (fun w' hS => val_leq rfl rfl) ?_
      refine yS (by kernel_rfl : opAt F30.o1 5 = some (some 8, .pick (.tmp 5) (.tmp 7) (.const (.bool false)), none)) rfl rfl (fun w' hS => val_pick_t rfl rfl) ?_
      refine yS (by kernel_rfl : opAt F30.o1 6 = some (some 2, .assign (.tmp 8), none)) rfl rfl (fun w' hS => val_assign rfl) ?_
      exact Sch.nil (hcut _ _ _ (Stp.refl _ _ _) rfl (by unfold sideB; rw [decide_eq_true hA]; rfl) (sub_skip rfl (sub_skip rfl (sub_skip rfl (sub_skip rfl (sub_skip rfl (sub_skip rfl (sub_skip rfl (Sub.refl _)))))))))
    · skip
      refine run_plain (id := 1) (ops := F30.o1) [(0, true), (1, true), (2, true), (3, true), (4, true), (5, true), (6, true)] (by kernel_rfl) (by kernel_rfl) ?_
      refine yS (by kernel_rfl : opAt F30.o1 0 = some (some 3, .move (.tmp 0), none)) rfl rfl (fun w' hS => val_move rfl) ?_
      refine yS (by kernel_rfl : opAt F30.o1 1 = some (some 4, .binOp .geq 3 (.tmp 3) (.const (.int .i64 0)) 3, none)) rfl rfl (fun w' hS => val_F (val_geq rfl rfl) hA) ?_
      refine yS (by kernel_rfl : opAt F30.o1 2 = some (some 5, .move (.tmp 4), none)) rfl rfl (fun w' hS => val_move rfl) ?_
      refine pS (by kernel_rfl : opAt F30.o1 3 = some (some 6, .move (.tmp 0), (some (2, true)))) rfl rfl ?_
      refine pS (by kernel_rfl : opAt F30.o1 4 = some (some 7, .binOp .leq 3 (.tmp 6) (.const (.int .i64 64)) 3, (some (2, true)))) rfl rfl ?_
      refine yS (by kernel_rfl : opAt F30.o1 5 = some (some 8, .pick (.tmp 5) (.tmp 7) (.const (.bool false)), none)) rfl rfl (fun w' hS => val_pick_f rfl rfl) ?_
      refine yS (by kernel_rfl : opAt F30.o1 6 = some (some 2, .assign (.tmp 8), none)) rfl rfl (fun w' hS => val_assign rfl) ?_
      exact Sch.nil (hcut _ _ _ (Stp.refl _ _ _) rfl (by unfold sideB; rw [decide_eq_false hA]; rfl) (sub_skip rfl (sub_skip rfl (sub_skip rfl (sub_skip rfl (sub_skip rfl (sub_skip rfl (sub_skip rfl (Sub.refl _)))))))))
  intro w1 hs
  replace hF := hF.st hs
  replace hT := hT.trans hs (by simp)
  refine run_ret1 (by kernel_rfl) Try.func30 Try.results30 rfl ?_
  exact ⟨rfl, hT.out1 (by decide)⟩
namespace F31
noncomputable def c0 : Code := bodyOf Try.f31
noncomputable def c1 : Code := cl c0
noncomputable def o0 : Array Oper := rops c1
noncomputable def c2 : Code := cr c0
noncomputable def c3 : Code := cl c2
noncomputable def o1 : Array Oper := rops c3
noncomputable def c4 : Code := cr c2
end F31
/-- 'compare'. -/
theorem ecompare_ok {w₀ : World} {C : Nat → Nat} {x y : K.Edge} (hF : Lim w₀ C) : Calls Try.prog 31 #[.agg #[.int .i64 x.a, .int .i64 x.b, .int .i64 x.w], .agg #[.int .i64 y.a, .int .i64 y.b, .int .i64 y.w]] w₀ (Ret fun v w' => v = .int .i64 (cmpC x.k y.k) ∧ Stp [] w₀ C w' C) := by
  have hF0 := hF
  have hT := Stp.refl [2, 3, 4, 5, 6, 7, 8, 9] w₀ (col1 C)
  replace hF := hF.col1
  refine calls_start (c := F31.c0) (N := 17) [.agg #[.int .i64 x.a, .int .i64 x.b, .int .i64 x.w], .agg #[.int .i64 y.a, .int .i64 y.b, .int .i64 y.w]] Try.func31 (by kernel_rfl) (by kernel_rfl) (by kernel_rfl) ?_
  show Run _ _ _ _ [(0, .agg #[.int .i64 x.a, .int .i64 x.b, .int .i64 x.w]), (1, .agg #[.int .i64 y.a, .int .i64 y.b, .int .i64 y.w])] _ _
  refine run_seq (x := F31.c1) (y := F31.c2) (by kernel_rfl) ?_
  refine run_plain (id := 0) (ops := F31.o0) [(0, false), (1, false), (2, true)] (by kernel_rfl) (by kernel_rfl) ?_
  refine aS (by kernel_rfl : opAt F31.o0 0 = some (some 2, .box 46 (.tmp 0), none)) rfl rfl (a_box (cs := [.int .i64 x.a, .int .i64 x.b, .int .i64 x.w]) hF 3 rfl rfl) ?_
  rintro _ w1 ⟨Cw1, bw1, rfl, hs, hx, hF⟩
  refine ⟨trivial, ?_⟩
  replace hT := hT.trans hs (by simp)
  refine aS (by kernel_rfl : opAt F31.o0 1 = some (some 3, .box 46 (.tmp 1), none)) rfl rfl (a_box (cs := [.int .i64 y.a, .int .i64 y.b, .int .i64 y.w]) hF 3 rfl rfl) ?_
  rintro _ w2 ⟨Cw2, bw2, rfl, hs, hy, hF⟩
  refine ⟨trivial, ?_⟩
  replace hT := hT.trans hs (by simp)
  replace hx := hx.st hs (by first | decide | (simp <;> omega))
  refine yS (by kernel_rfl : opAt F31.o0 2 = some (some 4, .assign (.const (.int .i64 0)), none)) rfl rfl (fun w' hS => val_assign rfl) ?_
  refine Sch.nil ?_
  refine run_seq (x := F31.c3) (y := F31.c4) (by kernel_rfl) ?_
  refine run_draw (id := 1) (ops := F31.o1) [] (Cw2) [(0, true), (1, true), (2, true), (3, true), (5, true), (6, true), (7, true), (8, true), (4, false), (9, false), (10, false), (11, false), (12, true)] Try_mixed (by kernel_rfl) (by kernel_rfl) (by kernel_rfl) ?_
  intro w3 hs
  replace hF := hF.st hs
  replace hT := hT.trans hs (by simp)
  replace hx := hx.st hs (by first | decide | (simp <;> omega))
  replace hy := hy.st hs (by first | decide | (simp <;> omega))
  have hR := Stp.refl [] w3 (Cw2)
  refine yS (by kernel_rfl : opAt F31.o1 0 = some (some 5, .fieldAddr 46 (.tmp 2) 0, none)) rfl rfl (fun w' hS => val_fieldAddr (off := 0) (by kernel_rfl) rfl) ?_
  refine yS (by kernel_rfl : opAt F31.o1 1 = some (some 6, .load 3 (.tmp 5), none)) rfl rfl (fun w' hS => val_loadOwn (hx.stay hS (by decide)) (by kernel_rfl) rfl rfl) ?_
  refine yS (by kernel_rfl : opAt F31.o1 2 = some (some 7, .fieldAddr 46 (.tmp 3) 0, none)) rfl rfl (fun w' hS => val_fieldAddr (off := 0) (by kernel_rfl) rfl) ?_
  refine yS (by kernel_rfl : opAt F31.o1 3 = some (some 8, .load 3 (.tmp 7), none)) rfl rfl (fun w' hS => val_loadOwn (hy.stay hS (by decide)) (by kernel_rfl) rfl rfl) ?_
  refine yS (by kernel_rfl : opAt F31.o1 5 = some (some 10, .fieldAddr 46 (.tmp 2) 1, none)) rfl rfl (fun w' hS => val_fieldAddr (off := 1) (by kernel_rfl) rfl) ?_
  refine yS (by kernel_rfl : opAt F31.o1 6 = some (some 11, .load 3 (.tmp 10), none)) rfl rfl (fun w' hS => val_loadOwn (hx.stay hS (by decide)) (by kernel_rfl) rfl rfl) ?_
  refine yS (by kernel_rfl : opAt F31.o1 7 = some (some 12, .fieldAddr 46 (.tmp 3) 1, none)) rfl rfl (fun w' hS => val_fieldAddr (off := 1) (by kernel_rfl) rfl) ?_
  refine yS (by kernel_rfl : opAt F31.o1 8 = some (some 13, .load 3 (.tmp 12), none)) rfl rfl (fun w' hS => val_loadOwn (hy.stay hS (by decide)) (by kernel_rfl) rfl rfl) ?_
  refine cS (by kernel_rfl : opAt F31.o1 4 = some (some 9, .call { callee := .value (.func 44), args := #[(.tmp 6), (.tmp 8)], argTypes := #[3, 3] }, none)) rfl rfl (ent Try.call44 rfl) (cmpI_ok _ _ _) ?_
  rintro vw4 w4 ⟨rfl, rfl⟩
  refine ⟨hR.ext, ?_⟩
  refine cS (by kernel_rfl : opAt F31.o1 9 = some (some 14, .call { callee := .value (.func 44), args := #[(.tmp 11), (.tmp 13)], argTypes := #[3, 3] }, none)) rfl rfl (ent Try.call44 rfl) (cmpI_ok _ _ _) ?_
  rintro vw5 w5 ⟨rfl, rfl⟩
  refine ⟨hR.ext, ?_⟩
  refine aS (by kernel_rfl : opAt F31.o1 10 = some (some 15, .buildSlice 22 2 #[(0, (.tmp 9)), (1, (.tmp 14))], none)) rfl rfl (a_buildSlice (ys := ([cmpI x.a y.a, cmpI x.b y.b] : List Int)) (e := 3) (bytes := 8) hF (by kernel_rfl) rfl (by decide) (by decide) ⟨rfl, ⟨_, rfl, rv_int.2 rfl⟩, rfl, ⟨_, rfl, rv_int.2 rfl⟩, trivial⟩) ?_
  rintro v15 w6 ⟨hs, g15, hF⟩
  refine ⟨(hR.trans hs (by simp)).ext, ?_⟩
  replace hT := hT.trans hs (by simp)
  replace hx := hx.st hs (by first | decide | (simp <;> omega))
  replace hy := hy.st hs (by first | decide | (simp <;> omega))
  replace hR := hR.trans hs (by simp)
  refine cS (by kernel_rfl : opAt F31.o1 11 = some (some 16, .call { callee := .value (.func 43), args := #[(.tmp 15)], argTypes := #[22] }, none)) rfl rfl (ent Try.call43 rfl) (orI_ok g15) ?_
  rintro vw7 w7 ⟨rfl, rfl⟩
  refine ⟨hR.ext, ?_⟩
  refine yS (by kernel_rfl : opAt F31.o1 12 = some (some 4, .assign (.tmp 16), none)) rfl rfl (fun w' hS => val_assign rfl) ?_
  refine Sch.nil ?_
  refine run_ret1 (by kernel_rfl) Try.func31 Try.results31 rfl ?_
  exact ⟨rfl, hT.out1 (by decide)⟩
namespace F17
noncomputable def c0 : Code := bodyOf Try.f17
noncomputable def c1 : Code := cl c0
noncomputable def o0 : Array Oper := rops c1
noncomputable def c2 : Code := cr c0
noncomputable def c3 : Code := cl c2
noncomputable def c4 : Code := cl c3
noncomputable def c5 : Code := cl c4
noncomputable def o1 : Array Oper := rops c5
noncomputable def c6 : Code := cr c4
noncomputable def c7 : Code := cl c6
noncomputable def c8 : Code := cl c7
noncomputable def o2 : Array Oper := rops c8
noncomputable def c9 : Code := cr c7
noncomputable def c10 : Code := cr c6
noncomputable def c11 : Code := cl c10
noncomputable def o3 : Array Oper := rops c11
noncomputable def c12 : Code := cr c10
noncomputable def c13 : Code := cl c12
noncomputable def c14 : Code := cl c13
noncomputable def o4 : Array Oper := rops c14
noncomputable def c15 : Code := cr c13
noncomputable def c16 : Code := cr c12
noncomputable def c17 : Code := cr c2
noncomputable def c18 : Code := cl c17
noncomputable def c19 : Code := cl c18
noncomputable def o5 : Array Oper := rops c19
noncomputable def c20 : Code := cr c18
noncomputable def c21 : Code := cl c20
noncomputable def c22 : Code := cl c21
noncomputable def c23 : Code := cl c22
noncomputable def o6 : Array Oper := rops c23
noncomputable def c24 : Code := cr c22
noncomputable def c25 : Code := cl c24
noncomputable def c26 : Code := cl c25
noncomputable def c27 : Code := cr c25
noncomputable def c28 : Code := cr c24
noncomputable def c29 : Code := cl c28
noncomputable def c30 : Code := cl c29
noncomputable def c31 : Code := cl c30
noncomputable def o7 : Array Oper := rops c31
noncomputable def c32 : Code := cr c30
noncomputable def c33 : Code := cl c32
noncomputable def c34 : Code := cl c33
noncomputable def o8 : Array Oper := rops c34
noncomputable def c35 : Code := cr c33
noncomputable def c36 : Code := cl c35
noncomputable def c37 : Code := cl c36
noncomputable def o9 : Array Oper := rops c37
noncomputable def c38 : Code := cr c36
noncomputable def c39 : Code := cr c35
noncomputable def c40 : Code := cl c39
noncomputable def o10 : Array Oper := rops c40
noncomputable def c41 : Code := cr c39
noncomputable def c42 : Code := cl c41
noncomputable def c43 : Code := cl c42
noncomputable def o11 : Array Oper := rops c43
noncomputable def c44 : Code := cr c42
noncomputable def c45 : Code := cr c41
noncomputable def c46 : Code := cl c45
noncomputable def o12 : Array Oper := rops c46
noncomputable def c47 : Code := cr c45
noncomputable def c48 : Code := cl c47
noncomputable def c49 : Code := cl c48
noncomputable def o13 : Array Oper := rops c49
noncomputable def c50 : Code := cr c48
noncomputable def c51 : Code := cr c47
noncomputable def c52 : Code := cr c28
noncomputable def o14 : Array Oper := rops c52
noncomputable def c53 : Code := cr c17
noncomputable def c54 : Code := cl c53
noncomputable def o15 : Array Oper := rops c54
noncomputable def c55 : Code := cr c53
end F17
/-- 'Check'. -/
theorem echeck_ok {w₀ : World} {C : Nat → Nat} {n m : Int} {l : List K.Edge} {vl : Value} (hF : Lim w₀ C) (hl : RV w₀ (Mc C) l vl) : Calls Try.prog 17 #[.int .i64 n, .int .i64 m, vl] w₀ (Ret fun v w' => v = .int .i64 (chkE n m l) ∧ Stp [] w₀ C w' C) := by
  have hF0 := hF
  have hT := Stp.refl [2, 3, 4, 5, 6, 7, 8, 9] w₀ (col1 C)
  replace hF := hF.col1
  replace hl : RV w₀ (Mc (col1 C)) l vl := by rw [Mc_col1]; exact hl
  refine calls_start (c := F17.c0) (N := 73) [.int .i64 n, .int .i64 m, vl] Try.func17 (by kernel_rfl) (by kernel_rfl) (by kernel_rfl) ?_
  show Run _ _ _ _ [(0, .int .i64 n), (1, .int .i64 m), (2, vl)] _ _
  refine run_seq (x := F17.c1) (y := F17.c2) (by kernel_rfl) ?_
  refine run_plain (id := 0) (ops := F17.o0) [(0, true)] (by kernel_rfl) (by kernel_rfl) ?_
  refine yS (by kernel_rfl : opAt F17.o0 0 = some (some 6, .assign (.const (.int .i64 0)), none)) rfl rfl (fun w' hS => val_assign rfl) ?_
  refine Sch.nil ?_
  refine run_seq (x := F17.c3) (y := F17.c17) (by kernel_rfl) ?_
  refine run_block (x := F17.c4) (id := 0) (by kernel_rfl) ?_
  refine run_seq (x := F17.c5) (y := F17.c6) (by kernel_rfl) ?_
  refine run_cut 9 (decide (sideB n = false ∨ sideB m = false)) (col1 C) ?_ ?_
  · intro hcut
    by_cases hA : sideB n = true
    · skip
      by_cases hB : sideB m = true
      · skip
        refine run_plain (id := 1) (ops := F17.o1) [(0, true), (1, false), (2, true), (3, true), (4, true), (5, false), (6, true), (7, true), (8, true)] (by kernel_rfl) (by kernel_rfl) ?_
        have hcs := Stp.reflF hF
        refine yS (by kernel_rfl : opAt F17.o1 0 = some (some 10, .move (.tmp 0), none)) rfl rfl (fun w' hS => val_move rfl) ?_
        refine cS (by kernel_rfl : opAt F17.o1 1 = some (some 11, .call { callee := .value (.func 30), args := #[(.tmp 10)], argTypes := #[3] }, none)) rfl rfl (ent Try.call30 rfl) (side_ok n hF) ?_
        rintro vw1 w1 ⟨rfl, hs⟩
        rw [hA]
        refine ⟨trivial, ?_⟩
        replace hF := hF.st hs
        replace hT := hT.trans hs (by simp)
        replace hl := hl.st hs (by first | decide | (simp <;> omega))
        replace hcs := hcs.trans hs (by simp)
        refine yS (by kernel_rfl : opAt F17.o1 2 = some (some 12, .unOp .not 4 (.tmp 11), none)) rfl rfl (fun w' hS => val_not rfl) ?_
        refine yS (by kernel_rfl : opAt F17.o1 3 = some (some 13, .move (.tmp 12), none)) rfl rfl (fun w' hS => val_move rfl) ?_
        refine yS (by kernel_rfl : opAt F17.o1 4 = some (some 14, .move (.tmp 1), (some (3, false)))) rfl rfl (fun w' hS => val_move rfl) ?_
        refine cS (by kernel_rfl : opAt F17.o1 5 = some (some 15, .call { callee := .value (.func 30), args := #[(.tmp 14)], argTypes := #[3] }, (some (3, false)))) rfl rfl (ent Try.call30 rfl) (side_ok m hF) ?_
        rintro vw2 w2 ⟨rfl, hs⟩
        rw [hB]
        refine ⟨trivial, ?_⟩
        replace hF := hF.st hs
        replace hT := hT.trans hs (by simp)
        replace hl := hl.st hs (by first | decide | (simp <;> omega))
        replace hcs := hcs.trans hs (by simp)
        refine yS (by kernel_rfl : opAt F17.o1 6 = some (some 16, .unOp .not 4 (.tmp 15), (some (3, false)))) rfl rfl (fun w' hS => val_not rfl) ?_
        refine yS (by kernel_rfl : opAt F17.o1 7 = some (some 17, .pick (.tmp 13) (.const (.bool true)) (.tmp 16), none)) rfl rfl (fun w' hS => val_pick_f rfl rfl) ?_
        refine yS (by kernel_rfl : opAt F17.o1 8 = some (some 9, .assign (.tmp 17), none)) rfl rfl (fun w' hS => val_assign rfl) ?_
        exact Sch.nil (hcut _ _ _ hcs rfl (by rw [hA, hB]; rfl) (sub_skip rfl (sub_skip rfl (sub_skip rfl (sub_skip rfl (sub_skip rfl (sub_skip rfl (sub_skip rfl (sub_skip rfl (sub_skip rfl (Sub.refl _)))))))))))
      · skip
        refine run_plain (id := 1) (ops := F17.o1) [(0, true), (1, false), (2, true), (3, true), (4, true), (5, false), (6, true), (7, true), (8, true)] (by kernel_rfl) (by kernel_rfl) ?_
        have hcs := Stp.reflF hF
        refine yS (by kernel_rfl : opAt F17.o1 0 = some (some 10, .move (.tmp 0), none)) rfl rfl (fun w' hS => val_move rfl) ?_
        refine cS (by kernel_rfl : opAt F17.o1 1 = some (some 11, .call { callee := .value (.func 30), args := #[(.tmp 10)], argTypes := #[3] }, none)) rfl rfl (ent Try.call30 rfl) (side_ok n hF) ?_
        rintro vw3 w3 ⟨rfl, hs⟩
        rw [hA]
        refine ⟨trivial, ?_⟩
        replace hF := hF.st hs
        replace hT := hT.trans hs (by simp)
        replace hl := hl.st hs (by first | decide | (simp <;> omega))
        replace hcs := hcs.trans hs (by simp)
        refine yS (by kernel_rfl : opAt F17.o1 2 = some (some 12, .unOp .not 4 (.tmp 11), none)) rfl rfl (fun w' hS => val_not rfl) ?_
        refine yS (by kernel_rfl : opAt F17.o1 3 = some (some 13, .move (.tmp 12), none)) rfl rfl (fun w' hS => val_move rfl) ?_
        refine yS (by kernel_rfl : opAt F17.o1 4 = some (some 14, .move (.tmp 1), (some (3, false)))) rfl rfl (fun w' hS => val_move rfl) ?_
        refine cS (by kernel_rfl : opAt F17.o1 5 = some (some 15, .call { callee := .value (.func 30), args := #[(.tmp 14)], argTypes := #[3] }, (some (3, false)))) rfl rfl (ent Try.call30 rfl) (side_ok m hF) ?_
        rintro vw4 w4 ⟨rfl, hs⟩
        rw [Bool.eq_false_iff.2 hB]
        refine ⟨trivial, ?_⟩
        replace hF := hF.st hs
        replace hT := hT.trans hs (by simp)
        replace hl := hl.st hs (by first | decide | (simp <;> omega))
        replace hcs := hcs.trans hs (by simp)
        refine yS (by kernel_rfl : opAt F17.o1 6 = some (some 16, .unOp .not 4 (.tmp 15), (some (3, false)))) rfl rfl (fun w' hS => val_not rfl) ?_
        refine yS (by kernel_rfl : opAt F17.o1 7 = some (some 17, .pick (.tmp 13) (.const (.bool true)) (.tmp 16), none)) rfl rfl (fun w' hS => val_pick_f rfl rfl) ?_
        refine yS (by kernel_rfl : opAt F17.o1 8 = some (some 9, .assign (.tmp 17), none)) rfl rfl (fun w' hS => val_assign rfl) ?_
        exact Sch.nil (hcut _ _ _ hcs rfl (by rw [decide_eq_true (show sideB n = false ∨ sideB m = false from .inr (Bool.eq_false_iff.2 hB))]; rfl) (sub_skip rfl (sub_skip rfl (sub_skip rfl (sub_skip rfl (sub_skip rfl (sub_skip rfl (sub_skip rfl (sub_skip rfl (sub_skip rfl (Sub.refl _)))))))))))
    · skip
      refine run_plain (id := 1) (ops := F17.o1) [(0, true), (1, false), (2, true), (3, true), (4, true), (5, false), (6, true), (7, true), (8, true)] (by kernel_rfl) (by kernel_rfl) ?_
      have hcs := Stp.reflF hF
      refine yS (by kernel_rfl : opAt F17.o1 0 = some (some 10, .move (.tmp 0), none)) rfl rfl (fun w' hS => val_move rfl) ?_
      refine cS (by kernel_rfl : opAt F17.o1 1 = some (some 11, .call { callee := .value (.func 30), args := #[(.tmp 10)], argTypes := #[3] }, none)) rfl rfl (ent Try.call30 rfl) (side_ok n hF) ?_
      rintro vw5 w5 ⟨rfl, hs⟩
      rw [Bool.eq_false_iff.2 hA]
      refine ⟨trivial, ?_⟩
      replace hF := hF.st hs
      replace hT := hT.trans hs (by simp)
      replace hl := hl.st hs (by first | decide | (simp <;> omega))
      replace hcs := hcs.trans hs (by simp)
      refine yS (by kernel_rfl : opAt F17.o1 2 = some (some 12, .unOp .not 4 (.tmp 11), none)) rfl rfl (fun w' hS => val_not rfl) ?_
      refine yS (by kernel_rfl : opAt F17.o1 3 = some (some 13, .move (.tmp 12), none)) rfl rfl (fun w' hS => val_move rfl) ?_
      refine pS (by kernel_rfl : opAt F17.o1 4 = some (some 14, .move (.tmp 1), (some (3, false)))) rfl rfl ?_
      refine pW (by kernel_rfl : opAt F17.o1 5 = some (some 15, .call { callee := .value (.func 30), args := #[(.tmp 14)], argTypes := #[3] }, (some (3, false)))) rfl rfl trivial ?_
      refine pS (by kernel_rfl : opAt F17.o1 6 = some (some 16, .unOp .not 4 (.tmp 15), (some (3, false)))) rfl rfl ?_
      refine yS (by kernel_rfl : opAt F17.o1 7 = some (some 17, .pick (.tmp 13) (.const (.bool true)) (.tmp 16), none)) rfl rfl (fun w' hS => val_pick_t rfl rfl) ?_
      refine yS (by kernel_rfl : opAt F17.o1 8 = some (some 9, .assign (.tmp 17), none)) rfl rfl (fun w' hS => val_assign rfl) ?_
      exact Sch.nil (hcut _ _ _ hcs rfl (by rw [decide_eq_true (show sideB n = false ∨ sideB m = false from .inl (Bool.eq_false_iff.2 hA))]) (sub_skip rfl (sub_skip rfl (sub_skip rfl (sub_skip rfl (sub_skip rfl (sub_skip rfl (sub_skip rfl (sub_skip rfl (sub_skip rfl (Sub.refl _)))))))))))
  intro w6 hs
  replace hF := hF.st hs
  replace hT := hT.trans hs (by simp)
  replace hl := hl.st hs (by first | decide | (simp <;> omega))
  refine run_if (x := F17.c7) (y := F17.c10) (o := .tmp 9) (by kernel_rfl) rfl (fun h9 => ?_) (fun h9 => ?_)
  · skip
    refine run_seq (x := F17.c8) (y := F17.c9) (by kernel_rfl) ?_
    refine run_plain (id := 2) (ops := F17.o2) [(0, true)] (by kernel_rfl) (by kernel_rfl) ?_
    refine yS (by kernel_rfl : opAt F17.o2 0 = some (some 6, .assign (.const (.int .i64 2)), none)) rfl rfl (fun w' hS => val_assign rfl) ?_
    refine Sch.nil ?_
    refine run_ret1 (by kernel_rfl) Try.func17 Try.results17 rfl ?_
    exact ⟨by rw [chkE_side h9], hT.out1 (by decide)⟩
  · skip
    refine run_seq (x := F17.c11) (y := F17.c12) (by kernel_rfl) ?_
    refine run_plain (id := 3) (ops := F17.o3) [(0, true), (1, true), (2, true), (3, true)] (by kernel_rfl) (by kernel_rfl) ?_
    refine yS (by kernel_rfl : opAt F17.o3 0 = some (some 19, .move (.tmp 2), none)) rfl rfl (fun w' hS => val_move rfl) ?_
    refine yS (by kernel_rfl : opAt F17.o3 1 = some (some 20, .call { callee := .builtin .len, args := #[(.tmp 19)], argTypes := #[23] }, none)) rfl rfl (fun w' hS => hl.lenV rfl Try.underlying23 w' ) ?_
    refine yS (by kernel_rfl : opAt F17.o3 2 = some (some 21, .binOp .gtr 3 (.tmp 20) (.const (.int .i64 4096)) 3, none)) rfl rfl (fun w' hS => val_gtr rfl rfl) ?_
    refine yS (by kernel_rfl : opAt F17.o3 3 = some (some 18, .assign (.tmp 21), none)) rfl rfl (fun w' hS => val_assign rfl) ?_
    refine Sch.nil ?_
    refine run_if (x := F17.c13) (y := F17.c16) (o := .tmp 18) (by kernel_rfl) rfl (fun h18 => ?_) (fun h18 => ?_)
    · skip
      refine run_seq (x := F17.c14) (y := F17.c15) (by kernel_rfl) ?_
      refine run_plain (id := 4) (ops := F17.o4) [(0, true)] (by kernel_rfl) (by kernel_rfl) ?_
      refine yS (by kernel_rfl : opAt F17.o4 0 = some (some 6, .assign (.const (.int .i64 1)), none)) rfl rfl (fun w' hS => val_assign rfl) ?_
      refine Sch.nil ?_
      refine run_ret1 (by kernel_rfl) Try.func17 Try.results17 rfl ?_
      exact ⟨by rw [chkE_lim h9 (by omega)], hT.out1 (by decide)⟩
    · skip
      have hlim : l.length ≤ 4096 := by omega
      refine run_skip (by kernel_rfl) ?_
      refine run_inBlock ?_
      refine run_seq (x := F17.c18) (y := F17.c53) (by kernel_rfl) ?_
      refine run_seq (x := F17.c19) (y := F17.c20) (by kernel_rfl) ?_
      refine run_plain (id := 5) (ops := F17.o5) [(0, true), (1, true), (2, true)] (by kernel_rfl) (by kernel_rfl) ?_
      refine yS (by kernel_rfl : opAt F17.o5 0 = some (some 22, .move (.tmp 2), none)) rfl rfl (fun w' hS => val_move rfl) ?_
      refine yS (by kernel_rfl : opAt F17.o5 1 = some (some 23, .call { callee := .builtin .len, args := #[(.tmp 22)], argTypes := #[23] }, none)) rfl rfl (fun w' hS => hl.lenV rfl Try.underlying23 w' ) ?_
      refine yS (by kernel_rfl : opAt F17.o5 2 = some (some 24, .move (.const (.int .i64 0)), none)) rfl rfl (fun w' hS => val_move rfl) ?_
      refine Sch.nil ?_
      refine run_block (x := F17.c21) (id := 1) (by kernel_rfl) ?_
      
      refine run_loop (ι := Nat × (Nat → Nat)) (I := fun x w => x.1 ≤ l.length ∧ (∀ k, k < x.1 → errE n m l k = 0) ∧ Lim w x.2 ∧ Stp [2, 3, 4, 5, 6, 7, 8, 9] w₀ (col1 C) w x.2 ∧ RV w (Mc x.2) l vl) (e := fun x => [(0, .int .i64 n), (1, .int .i64 m), (2, vl), (22, vl), (23, .int .i64 l.length), (24, .int .i64 x.1)]) (m := fun x => l.length - x.1) (x₀ := (0, col1 C)) (body := F17.c22) (by kernel_rfl) (sub_cons 0 rfl rfl (sub_cons 1 rfl rfl (sub_cons 2 rfl rfl (sub_cons 22 rfl rfl (sub_cons 23 rfl rfl (sub_cons 24 rfl rfl (sub_nil _))))))) ?_ ?_
      · exact ⟨Nat.zero_le _, fun k hk => by simp at hk, hF, hT, hl⟩
      intro ⟨i, C1⟩ w7 hI next
      obtain ⟨hi, h0, hF, hT, hl⟩ := hI
      try simp only at hi h0 hF hT hl
      have next1 := next
      clear next
      show Run _ _ _ _ [(0, .int .i64 n), (1, .int .i64 m), (2, vl), (22, vl), (23, .int .i64 l.length), (24, .int .i64 i)] _ _
      refine run_seq (x := F17.c23) (y := F17.c24) (by kernel_rfl) ?_
      refine run_plain (id := 6) (ops := F17.o6) [(0, true)] (by kernel_rfl) (by kernel_rfl) ?_
      refine yS (by kernel_rfl : opAt F17.o6 0 = some (some 25, .binOp .lss 3 (.tmp 24) (.tmp 23) 3, none)) rfl rfl (fun w' hS => val_lss rfl rfl) ?_
      refine Sch.nil ?_
      refine run_seq (x := F17.c25) (y := F17.c28) (by kernel_rfl) ?_
      refine run_if (x := F17.c26) (y := F17.c27) (o := .tmp 25) (by kernel_rfl) rfl (fun h25 => ?_) (fun h25 => ?_)
      · skip
        have hil : i < l.length := by omega
        have hE := errE_val (n := n) (m := m) hil
        refine run_skip (by kernel_rfl) ?_
        refine run_seq (x := F17.c29) (y := F17.c52) (by kernel_rfl) ?_
        refine run_block (x := F17.c30) (id := 2) (by kernel_rfl) ?_
        refine run_seq (x := F17.c31) (y := F17.c32) (by kernel_rfl) ?_
        refine run_plain (id := 7) (ops := F17.o7) [(0, true), (1, true), (2, false), (3, false), (4, true), (5, false)] (by kernel_rfl) (by kernel_rfl) ?_
        refine yS (by kernel_rfl : opAt F17.o7 0 = some (some 26, .move (.tmp 24), none)) rfl rfl (fun w' hS => val_move rfl) ?_
        refine iS (e := 46) (by kernel_rfl : opAt F17.o7 1 = some (some 27, .indexAddr 23 (.tmp 22) (.tmp 24), none)) rfl rfl hl rfl (by kernel_rfl) rfl (by omega) (by omega) ?_
        intro b27 o27 h27
        try simp only [Int.toNat_natCast] at h27
        refine lNA (by kernel_rfl : opAt F17.o7 2 = some (some 28, .load 46 (.tmp 27), none)) rfl rfl trivial h27 (by kernel_rfl) (by kernel_rfl) rfl rfl ?_
        intro v28 g28
        obtain rfl := rv_edge.1 g28
        refine aS (by kernel_rfl : opAt F17.o7 3 = some (some 8, .alloc 46, none)) rfl rfl (a_alloc (cs := [.int .i64 0, .int .i64 0, .int .i64 0]) hF 4 (by kernel_rfl)) ?_
        rintro _ w8 ⟨Cw8, bw8, rfl, hs, hx, hF⟩
        refine ⟨trivial, ?_⟩
        replace hT := hT.trans hs (by simp)
        replace hl := hl.st hs (by first | decide | (simp <;> omega))
        replace h27 := h27.st hs (by first | decide | (simp <;> omega))
        refine yS (by kernel_rfl : opAt F17.o7 4 = some (some 7, .assign (.tmp 26), none)) rfl rfl (fun w' hS => val_assign rfl) ?_
        refine aN (by kernel_rfl : opAt F17.o7 5 = some (none, .store 46 (.tmp 8) (.tmp 28), none)) rfl (a_storeAll (vs := encE (l[i]'hil)) (n := 3) rfl rfl (by kernel_rfl) rfl rfl (by intro u hu; simp only [encE, List.mem_cons, List.not_mem_nil, or_false] at hu; rcases hu with rfl | rfl | rfl <;> rfl) hx rfl) ?_
        rintro _ w9 ⟨rfl, hs, hx⟩
        refine ⟨trivial, ?_⟩
        replace hF := hF.st hs
        replace hT := hT.trans hs (by simp)
        replace hl := hl.st hs (by first | decide | (simp <;> omega))
        replace h27 := h27.st hs (by first | decide | (simp <;> omega))
        refine Sch.nil ?_
        refine run_block (x := F17.c33) (id := 3) (by kernel_rfl) ?_
        refine run_seq (x := F17.c34) (y := F17.c35) (by kernel_rfl) ?_
        refine run_cut 29 (decide ((l[i]'hil).a < 0 ∨ n ≤ (l[i]'hil).a ∨ (l[i]'hil).b < 0 ∨ m ≤ (l[i]'hil).b)) (Cw8) ?_ ?_
        · intro hcut
          by_cases hA : (l[i]'hil).a < 0
          · skip
            refine run_plain (id := 8) (ops := F17.o8) [(0, true), (1, false), (2, true), (3, true), (4, true), (5, false), (6, true), (7, true), (8, true), (9, true), (10, true), (11, false), (12, true), (13, true), (14, true), (15, true), (16, false), (17, true), (18, true), (19, true), (20, true)] (by kernel_rfl) (by kernel_rfl) ?_
            refine yS (by kernel_rfl : opAt F17.o8 0 = some (some 30, .fieldAddr 46 (.tmp 8) 0, none)) rfl rfl (fun w' hS => val_fieldAddr (off := 0) (by kernel_rfl) rfl) ?_
            refine nS (by kernel_rfl : opAt F17.o8 1 = some (some 31, .load 3 (.tmp 30), none)) rfl rfl trivial (val_loadOwn hx.at_ (by kernel_rfl) rfl rfl) ?_
            refine yS (by kernel_rfl : opAt F17.o8 2 = some (some 32, .binOp .lss 3 (.tmp 31) (.const (.int .i64 0)) 3, none)) rfl rfl (fun w' hS => val_T (val_lss rfl rfl) hA) ?_
            refine yS (by kernel_rfl : opAt F17.o8 3 = some (some 33, .move (.tmp 32), none)) rfl rfl (fun w' hS => val_move rfl) ?_
            refine pS (by kernel_rfl : opAt F17.o8 4 = some (some 34, .fieldAddr 46 (.tmp 8) 0, (some (3, false)))) rfl rfl ?_
            refine pW (by kernel_rfl : opAt F17.o8 5 = some (some 35, .load 3 (.tmp 34), (some (3, false)))) rfl rfl trivial ?_
            refine pS (by kernel_rfl : opAt F17.o8 6 = some (some 36, .move (.tmp 0), (some (3, false)))) rfl rfl ?_
            refine pS (by kernel_rfl : opAt F17.o8 7 = some (some 37, .binOp .geq 3 (.tmp 35) (.tmp 36) 3, (some (3, false)))) rfl rfl ?_
            refine yS (by kernel_rfl : opAt F17.o8 8 = some (some 38, .pick (.tmp 33) (.const (.bool true)) (.tmp 37), none)) rfl rfl (fun w' hS => val_pick_t rfl rfl) ?_
            refine yS (by kernel_rfl : opAt F17.o8 9 = some (some 39, .move (.tmp 38), none)) rfl rfl (fun w' hS => val_move rfl) ?_
            refine pS (by kernel_rfl : opAt F17.o8 10 = some (some 40, .fieldAddr 46 (.tmp 8) 1, (some (9, false)))) rfl rfl ?_
            refine pW (by kernel_rfl : opAt F17.o8 11 = some (some 41, .load 3 (.tmp 40), (some (9, false)))) rfl rfl trivial ?_
            refine pS (by kernel_rfl : opAt F17.o8 12 = some (some 42, .binOp .lss 3 (.tmp 41) (.const (.int .i64 0)) 3, (some (9, false)))) rfl rfl ?_
            refine yS (by kernel_rfl : opAt F17.o8 13 = some (some 43, .pick (.tmp 39) (.const (.bool true)) (.tmp 42), none)) rfl rfl (fun w' hS => val_pick_t rfl rfl) ?_
            refine yS (by kernel_rfl : opAt F17.o8 14 = some (some 44, .move (.tmp 43), none)) rfl rfl (fun w' hS => val_move rfl) ?_
            refine pS (by kernel_rfl : opAt F17.o8 15 = some (some 45, .fieldAddr 46 (.tmp 8) 1, (some (14, false)))) rfl rfl ?_
            refine pW (by kernel_rfl : opAt F17.o8 16 = some (some 46, .load 3 (.tmp 45), (some (14, false)))) rfl rfl trivial ?_
            refine pS (by kernel_rfl : opAt F17.o8 17 = some (some 47, .move (.tmp 1), (some (14, false)))) rfl rfl ?_
            refine pS (by kernel_rfl : opAt F17.o8 18 = some (some 48, .binOp .geq 3 (.tmp 46) (.tmp 47) 3, (some (14, false)))) rfl rfl ?_
            refine yS (by kernel_rfl : opAt F17.o8 19 = some (some 49, .pick (.tmp 44) (.const (.bool true)) (.tmp 48), none)) rfl rfl (fun w' hS => val_pick_t rfl rfl) ?_
            refine yS (by kernel_rfl : opAt F17.o8 20 = some (some 29, .assign (.tmp 49), none)) rfl rfl (fun w' hS => val_assign rfl) ?_
            exact Sch.nil (hcut _ _ _ (Stp.refl _ _ _) rfl (by rw [decide_eq_true (show (l[i]'hil).a < 0 ∨ n ≤ (l[i]'hil).a ∨ (l[i]'hil).b < 0 ∨ m ≤ (l[i]'hil).b from .inl hA)]) (sub_skip rfl (sub_skip rfl (sub_skip rfl (sub_skip rfl (sub_skip rfl (sub_skip rfl (sub_skip rfl (sub_skip rfl (sub_skip rfl (sub_skip rfl (sub_skip rfl (sub_skip rfl (sub_skip rfl (sub_skip rfl (sub_skip rfl (sub_skip rfl (sub_skip rfl (sub_skip rfl (sub_skip rfl (sub_skip rfl (sub_skip rfl (Sub.refl _)))))))))))))))))))))))
          · skip
            by_cases hB : n ≤ (l[i]'hil).a
            · skip
              refine run_plain (id := 8) (ops := F17.o8) [(0, true), (1, false), (2, true), (3, true), (4, true), (5, false), (6, true), (7, true), (8, true), (9, true), (10, true), (11, false), (12, true), (13, true), (14, true), (15, true), (16, false), (17, true), (18, true), (19, true), (20, true)] (by kernel_rfl) (by kernel_rfl) ?_
              refine yS (by kernel_rfl : opAt F17.o8 0 = some (some 30, .fieldAddr 46 (.tmp 8) 0, none)) rfl rfl (fun w' hS => val_fieldAddr (off := 0) (by kernel_rfl) rfl) ?_
              refine nS (by kernel_rfl : opAt F17.o8 1 = some (some 31, .load 3 (.tmp 30), none)) rfl rfl trivial (val_loadOwn hx.at_ (by kernel_rfl) rfl rfl) ?_
              refine yS (by kernel_rfl : opAt F17.o8 2 = some (some 32, .binOp .lss 3 (.tmp 31) (.const (.int .i64 0)) 3, none)) rfl rfl (fun w' hS => val_F (val_lss rfl rfl) hA) ?_
              refine yS (by kernel_rfl : opAt F17.o8 3 = some (some 33, .move (.tmp 32), none)) rfl rfl (fun w' hS => val_move rfl) ?_
              refine yS (by kernel_rfl : opAt F17.o8 4 = some (some 34, .fieldAddr 46 (.tmp 8) 0, (some (3, false)))) rfl rfl (fun w' hS => val_fieldAddr (off := 0) (by kernel_rfl) rfl) ?_
              refine nS (by kernel_rfl : opAt F17.o8 5 = some (some 35, .load 3 (.tmp 34), (some (3, false)))) rfl rfl trivial (val_loadOwn hx.at_ (by kernel_rfl) rfl rfl) ?_
              refine yS (by kernel_rfl : opAt F17.o8 6 = some (some 36, .move (.tmp 0), (some (3, false)))) rfl rfl (fun w' hS => val_move rfl) ?_
              refine yS (by kernel_rfl : opAt F17.o8 7 = some (some 37, .binOp .geq 3 (.tmp 35) (.tmp 36) 3, (some (3, false)))) rfl rfl (fun w' hS => val_T (val_geq rfl rfl) hB) ?_
              refine yS (by kernel_rfl : opAt F17.o8 8 = some (some 38, .pick (.tmp 33) (.const (.bool true)) (.tmp 37), none)) rfl rfl (fun w' hS => val_pick_f rfl rfl) ?_
              refine yS (by kernel_rfl : opAt F17.o8 9 = some (some 39, .move (.tmp 38), none)) rfl rfl (fun w' hS => val_move rfl) ?_
              refine pS (by kernel_rfl : opAt F17.o8 10 = some (some 40, .fieldAddr 46 (.tmp 8) 1, (some (9, false)))) rfl rfl ?_
              refine pW (by kernel_rfl : opAt F17.o8 11 = some (some 41, .load 3 (.tmp 40), (some (9, false)))) rfl rfl trivial ?_
              refine pS (by kernel_rfl : opAt F17.o8 12 = some (some 42, .binOp .lss 3 (.tmp 41) (.const (.int .i64 0)) 3, (some (9, false)))) rfl rfl ?_
              refine yS (by kernel_rfl : opAt F17.o8 13 = some (some 43, .pick (.tmp 39) (.const (.bool true)) (.tmp 42), none)) rfl rfl (fun w' hS => val_pick_t rfl rfl) ?_
              refine yS (by kernel_rfl : opAt F17.o8 14 = some (some 44, .move (.tmp 43), none)) rfl rfl (fun w' hS => val_move rfl) ?_
              refine pS (by kernel_rfl : opAt F17.o8 15 = some (some 45, .fieldAddr 46 (.tmp 8) 1, (some (14, false)))) rfl rfl ?_
              refine pW (by kernel_rfl : opAt F17.o8 16 = some (some 46, .load 3 (.tmp 45), (some (14, false)))) rfl rfl trivial ?_
              refine pS (by kernel_rfl : opAt F17.o8 17 = some (some 47, .move (.tmp 1), (some (14, false)))) rfl rfl ?_
              refine pS (by kernel_rfl : opAt F17.o8 18 = some (some 48, .binOp .geq 3 (.tmp 46) (.tmp 47) 3, (some (14, false)))) rfl rfl ?_
              refine yS (by kernel_rfl : opAt F17.o8 19 = some (some 49, .pick (.tmp 44) (.const (.bool true)) (.tmp 48), none)) rfl rfl (fun w' hS => val_pick_t rfl rfl) ?_
              refine yS (by kernel_rfl : opAt F17.o8 20 = some (some 29, .assign (.tmp 49), none)) rfl rfl (fun w' hS => val_assign rfl) ?_
              exact Sch.nil (hcut _ _ _ (Stp.refl _ _ _) rfl (by rw [decide_eq_true (show (l[i]'hil).a < 0 ∨ n ≤ (l[i]'hil).a ∨ (l[i]'hil).b < 0 ∨ m ≤ (l[i]'hil).b from .inr (.inl hB))]) (sub_skip rfl (sub_skip rfl (sub_skip rfl (sub_skip rfl (sub_skip rfl (sub_skip rfl (sub_skip rfl (sub_skip rfl (sub_skip rfl (sub_skip rfl (sub_skip rfl (sub_skip rfl (sub_skip rfl (sub_skip rfl (sub_skip rfl (sub_skip rfl (sub_skip rfl (sub_skip rfl (sub_skip rfl (sub_skip rfl (sub_skip rfl (Sub.refl _)))))))))))))))))))))))
            · skip
              by_cases hC : (l[i]'hil).b < 0
              · skip
                refine run_plain (id := 8) (ops := F17.o8) [(0, true), (1, false), (2, true), (3, true), (4, true), (5, false), (6, true), (7, true), (8, true), (9, true), (10, true), (11, false), (12, true), (13, true), (14, true), (15, true), (16, false), (17, true), (18, true), (19, true), (20, true)] (by kernel_rfl) (by kernel_rfl) ?_
                refine yS (by kernel_rfl : opAt F17.o8 0 = some (some 30, .fieldAddr 46 (.tmp 8) 0, none)) rfl rfl (fun w' hS => val_fieldAddr (off := 0) (by kernel_rfl) rfl) ?_
                refine nS (by kernel_rfl : opAt F17.o8 1 = some (some 31, .load 3 (.tmp 30), none)) rfl rfl trivial (val_loadOwn hx.at_ (by kernel_rfl) rfl rfl) ?_
                refine yS (by kernel_rfl : opAt F17.o8 2 = some (some 32, .binOp .lss 3 (.tmp 31) (.const (.int .i64 0)) 3, none)) rfl rfl (fun w' hS => val_F (val_lss rfl rfl) hA) ?_
                refine yS (by kernel_rfl : opAt F17.o8 3 = some (some 33, .move (.tmp 32), none)) rfl rfl (fun w' hS => val_move rfl) ?_
                refine yS (by kernel_rfl : opAt F17.o8 4 = some (some 34, .fieldAddr 46 (.tmp 8) 0, (some (3, false)))) rfl rfl (fun w' hS => val_fieldAddr (off := 0) (by kernel_rfl) rfl) ?_
                refine nS (by kernel_rfl : opAt F17.o8 5 = some (some 35, .load 3 (.tmp 34), (some (3, false)))) rfl rfl trivial (val_loadOwn hx.at_ (by kernel_rfl) rfl rfl) ?_
                refine yS (by kernel_rfl : opAt F17.o8 6 = some (some 36, .move (.tmp 0), (some (3, false)))) rfl rfl (fun w' hS => val_move rfl) ?_
                refine yS (by kernel_rfl : opAt F17.o8 7 = some (some 37, .binOp .geq 3 (.tmp 35) (.tmp 36) 3, (some (3, false)))) rfl rfl (fun w' hS => val_F (val_geq rfl rfl) hB) ?_
                refine yS (by kernel_rfl : opAt F17.o8 8 = some (some 38, .pick (.tmp 33) (.const (.bool true)) (.tmp 37), none)) rfl rfl (fun w' hS => val_pick_f rfl rfl) ?_
                refine yS (by kernel_rfl : opAt F17.o8 9 = some (some 39, .move (.tmp 38), none)) rfl rfl (fun w' hS => val_move rfl) ?_
                refine yS (by kernel_rfl : opAt F17.o8 10 = some (some 40, .fieldAddr 46 (.tmp 8) 1, (some (9, false)))) rfl rfl (fun w' hS => val_fieldAddr (off := 1) (by kernel_rfl) rfl) ?_
                refine nS (by kernel_rfl : opAt F17.o8 11 = some (some 41, .load 3 (.tmp 40), (some (9, false)))) rfl rfl trivial (val_loadOwn hx.at_ (by kernel_rfl) rfl rfl) ?_
                refine yS (by kernel_rfl : opAt F17.o8 12 = some (some 42, .binOp .lss 3 (.tmp 41) (.const (.int .i64 0)) 3, (some (9, false)))) rfl rfl (fun w' hS => val_T (val_lss rfl rfl) hC) ?_
                refine yS (by kernel_rfl : opAt F17.o8 13 = some (some 43, .pick (.tmp 39) (.const (.bool true)) (.tmp 42), none)) rfl rfl (fun w' hS => val_pick_f rfl rfl) ?_
                refine yS (by kernel_rfl : opAt F17.o8 14 = some (some 44, .move (.tmp 43), none)) rfl rfl (fun w' hS => val_move rfl) ?_
                refine pS (by kernel_rfl : opAt F17.o8 15 = some (some 45, .fieldAddr 46 (.tmp 8) 1, (some (14, false)))) rfl rfl ?_
                refine pW (by kernel_rfl : opAt F17.o8 16 = some (some 46, .load 3 (.tmp 45), (some (14, false)))) rfl rfl trivial ?_
                refine pS (by kernel_rfl : opAt F17.o8 17 = some (some 47, .move (.tmp 1), (some (14, false)))) rfl rfl ?_
                refine pS (by kernel_rfl : opAt F17.o8 18 = some (some 48, .binOp .geq 3 (.tmp 46) (.tmp 47) 3, (some (14, false)))) rfl rfl ?_
                refine yS (by kernel_rfl : opAt F17.o8 19 = some (some 49, .pick (.tmp 44) (.const (.bool true)) (.tmp 48), none)) rfl rfl (fun w' hS => val_pick_t rfl rfl) ?_
                refine yS (by kernel_rfl : opAt F17.o8 20 = some (some 29, .assign (.tmp 49), none)) rfl rfl (fun w' hS => val_assign rfl) ?_
                exact Sch.nil (hcut _ _ _ (Stp.refl _ _ _) rfl (by rw [decide_eq_true (show (l[i]'hil).a < 0 ∨ n ≤ (l[i]'hil).a ∨ (l[i]'hil).b < 0 ∨ m ≤ (l[i]'hil).b from .inr (.inr (.inl hC)))]) (sub_skip rfl (sub_skip rfl (sub_skip rfl (sub_skip rfl (sub_skip rfl (sub_skip rfl (sub_skip rfl (sub_skip rfl (sub_skip rfl (sub_skip rfl (sub_skip rfl (sub_skip rfl (sub_skip rfl (sub_skip rfl (sub_skip rfl (sub_skip rfl (sub_skip rfl (sub_skip rfl (sub_skip rfl (sub_skip rfl (sub_skip rfl (Sub.refl _)))))))))))))))))))))))
              · skip
                refine run_plain (id := 8) (ops := F17.o8) [(0, true), (1, false), (2, true), (3, true), (4, true), (5, false), (6, true), (7, true), (8, true), (9, true), (10, true), (11, false), (12, true), (13, true), (14, true), (15, true), (16, false), (17, true), (18, true), (19, true), (20, true)] (by kernel_rfl) (by kernel_rfl) ?_
                refine yS (by kernel_rfl : opAt F17.o8 0 = some (some 30, .fieldAddr 46 (.tmp 8) 0, none)) rfl rfl (fun w' hS => val_fieldAddr (off := 0) (by kernel_rfl) rfl) ?_
                refine nS (by kernel_rfl : opAt F17.o8 1 = some (some 31, .load 3 (.tmp 30), none)) rfl rfl trivial (val_loadOwn hx.at_ (by kernel_rfl) rfl rfl) ?_
                refine yS (by kernel_rfl : opAt F17.o8 2 = some (some 32, .binOp .lss 3 (.tmp 31) (.const (.int .i64 0)) 3, none)) rfl rfl (fun w' hS => val_F (val_lss rfl rfl) hA) ?_
                refine yS (by kernel_rfl : opAt F17.o8 3 = some (some 33, .move (.tmp 32), none)) rfl rfl (fun w' hS => val_move rfl) ?_
                refine yS (by kernel_rfl : opAt F17.o8 4 = some (some 34, .fieldAddr 46 (.tmp 8) 0, (some (3, false)))) rfl rfl (fun w' hS => val_fieldAddr (off := 0) (by kernel_rfl) rfl) ?_
                refine nS (by kernel_rfl : opAt F17.o8 5 = some (some 35, .load 3 (.tmp 34), (some (3, false)))) rfl rfl trivial (val_loadOwn hx.at_ (by kernel_rfl) rfl rfl) ?_
                refine yS (by kernel_rfl : opAt F17.o8 6 = some (some 36, .move (.tmp 0), (some (3, false)))) rfl rfl (fun w' hS => val_move rfl) ?_
                refine yS (by kernel_rfl : opAt F17.o8 7 = some (some 37, .binOp .geq 3 (.tmp 35) (.tmp 36) 3, (some (3, false)))) rfl rfl (fun w' hS => val_F (val_geq rfl rfl) hB) ?_
                refine yS (by kernel_rfl : opAt F17.o8 8 = some (some 38, .pick (.tmp 33) (.const (.bool true)) (.tmp 37), none)) rfl rfl (fun w' hS => val_pick_f rfl rfl) ?_
                refine yS (by kernel_rfl : opAt F17.o8 9 = some (some 39, .move (.tmp 38), none)) rfl rfl (fun w' hS => val_move rfl) ?_
                refine yS (by kernel_rfl : opAt F17.o8 10 = some (some 40, .fieldAddr 46 (.tmp 8) 1, (some (9, false)))) rfl rfl (fun w' hS => val_fieldAddr (off := 1) (by kernel_rfl) rfl) ?_
                refine nS (by kernel_rfl : opAt F17.o8 11 = some (some 41, .load 3 (.tmp 40), (some (9, false)))) rfl rfl trivial (val_loadOwn hx.at_ (by kernel_rfl) rfl rfl) ?_
                refine yS (by kernel_rfl : opAt F17.o8 12 = some (some 42, .binOp .lss 3 (.tmp 41) (.const (.int .i64 0)) 3, (some (9, false)))) rfl rfl (fun w' hS => val_F (val_lss rfl rfl) hC) ?_
                refine yS (by kernel_rfl : opAt F17.o8 13 = some (some 43, .pick (.tmp 39) (.const (.bool true)) (.tmp 42), none)) rfl rfl (fun w' hS => val_pick_f rfl rfl) ?_
                refine yS (by kernel_rfl : opAt F17.o8 14 = some (some 44, .move (.tmp 43), none)) rfl rfl (fun w' hS => val_move rfl) ?_
                refine yS (by kernel_rfl : opAt F17.o8 15 = some (some 45, .fieldAddr 46 (.tmp 8) 1, (some (14, false)))) rfl rfl (fun w' hS => val_fieldAddr (off := 1) (by kernel_rfl) rfl) ?_
                refine nS (by kernel_rfl : opAt F17.o8 16 = some (some 46, .load 3 (.tmp 45), (some (14, false)))) rfl rfl trivial (val_loadOwn hx.at_ (by kernel_rfl) rfl rfl) ?_
                refine yS (by kernel_rfl : opAt F17.o8 17 = some (some 47, .move (.tmp 1), (some (14, false)))) rfl rfl (fun w' hS => val_move rfl) ?_
                refine yS (by kernel_rfl : opAt F17.o8 18 = some (some 48, .binOp .geq 3 (.tmp 46) (.tmp 47) 3, (some (14, false)))) rfl rfl (fun w' hS => val_geq rfl rfl) ?_
                refine yS (by kernel_rfl : opAt F17.o8 19 = some (some 49, .pick (.tmp 44) (.const (.bool true)) (.tmp 48), none)) rfl rfl (fun w' hS => val_pick_f rfl rfl) ?_
                refine yS (by kernel_rfl : opAt F17.o8 20 = some (some 29, .assign (.tmp 49), none)) rfl rfl (fun w' hS => val_assign rfl) ?_
                exact Sch.nil (hcut _ _ _ (Stp.refl _ _ _) rfl (by congr 1; apply decide_eq_decide.2; omega) (sub_skip rfl (sub_skip rfl (sub_skip rfl (sub_skip rfl (sub_skip rfl (sub_skip rfl (sub_skip rfl (sub_skip rfl (sub_skip rfl (sub_skip rfl (sub_skip rfl (sub_skip rfl (sub_skip rfl (sub_skip rfl (sub_skip rfl (sub_skip rfl (sub_skip rfl (sub_skip rfl (sub_skip rfl (sub_skip rfl (sub_skip rfl (Sub.refl _)))))))))))))))))))))))
        intro w10 hs
        replace hF := hF.st hs
        replace hT := hT.trans hs (by simp)
        replace hl := hl.st hs (by first | decide | (simp <;> omega))
        replace h27 := h27.st hs (by first | decide | (simp <;> omega))
        replace hx := hx.st hs (by first | decide | (simp <;> omega))
        refine run_if (x := F17.c36) (y := F17.c39) (o := .tmp 29) (by kernel_rfl) rfl (fun h29 => ?_) (fun h29 => ?_)
        · skip
          refine run_seq (x := F17.c37) (y := F17.c38) (by kernel_rfl) ?_
          refine run_plain (id := 9) (ops := F17.o9) [(0, true)] (by kernel_rfl) (by kernel_rfl) ?_
          refine yS (by kernel_rfl : opAt F17.o9 0 = some (some 6, .assign (.const (.int .i64 43)), none)) rfl rfl (fun w' hS => val_assign rfl) ?_
          refine Sch.nil ?_
          refine run_ret1 (by kernel_rfl) Try.func17 Try.results17 rfl ?_
          rw [if_pos h29] at hE
          exact ⟨by rw [chkE_at h9 hlim hil h0 (by rw [hE]; decide), hE], hT.out1 (by decide)⟩
        · skip
          refine run_seq (x := F17.c40) (y := F17.c41) (by kernel_rfl) ?_
          refine run_cut 50 (decide ((l[i]'hil).w < -65536 ∨ 65536 < (l[i]'hil).w)) (Cw8) ?_ ?_
          · intro hcut
            by_cases hA : (l[i]'hil).w < -65536
            · skip
              refine run_plain (id := 10) (ops := F17.o10) [(0, true), (1, false), (2, true), (3, true), (4, true), (5, false), (6, true), (7, true), (8, true)] (by kernel_rfl) (by kernel_rfl) ?_
              refine yS (by kernel_rfl : opAt F17.o10 0 = some (some 51, .fieldAddr 46 (.tmp 8) 2, none)) rfl rfl (fun w' hS => val_fieldAddr (off := 2) (by kernel_rfl) rfl) ?_
              refine nS (by kernel_rfl : opAt F17.o10 1 = some (some 52, .load 3 (.tmp 51), none)) rfl rfl trivial (val_loadOwn hx.at_ (by kernel_rfl) rfl rfl) ?_
              refine yS (by kernel_rfl : opAt F17.o10 2 = some (some 53, .binOp .lss 3 (.tmp 52) (.const (.int .i64 (-65536))) 3, none)) rfl rfl (fun w' hS => val_T (val_lss rfl rfl) hA) ?_
              refine yS (by kernel_rfl : opAt F17.o10 3 = some (some 54, .move (.tmp 53), none)) rfl rfl (fun w' hS => val_move rfl) ?_
              refine pS (by kernel_rfl : opAt F17.o10 4 = some (some 55, .fieldAddr 46 (.tmp 8) 2, (some (3, false)))) rfl rfl ?_
              refine pW (by kernel_rfl : opAt F17.o10 5 = some (some 56, .load 3 (.tmp 55), (some (3, false)))) rfl rfl trivial ?_
              refine pS (by kernel_rfl : opAt F17.o10 6 = some (some 57, .binOp .gtr 3 (.tmp 56) (.const (.int .i64 65536)) 3, (some (3, false)))) rfl rfl ?_
              refine yS (by kernel_rfl : opAt F17.o10 7 = some (some 58, .pick (.tmp 54) (.const (.bool true)) (.tmp 57), none)) rfl rfl (fun w' hS => val_pick_t rfl rfl) ?_
              refine yS (by kernel_rfl : opAt F17.o10 8 = some (some 50, .assign (.tmp 58), none)) rfl rfl (fun w' hS => val_assign rfl) ?_
              exact Sch.nil (hcut _ _ _ (Stp.refl _ _ _) rfl (by rw [decide_eq_true (Or.inl hA)]) (sub_skip rfl (sub_skip rfl (sub_skip rfl (sub_skip rfl (sub_skip rfl (sub_skip rfl (sub_skip rfl (sub_skip rfl (sub_skip rfl (Sub.refl _)))))))))))
            · skip
              refine run_plain (id := 10) (ops := F17.o10) [(0, true), (1, false), (2, true), (3, true), (4, true), (5, false), (6, true), (7, true), (8, true)] (by kernel_rfl) (by kernel_rfl) ?_
              refine yS (by kernel_rfl : opAt F17.o10 0 = some (some 51, .fieldAddr 46 (.tmp 8) 2, none)) rfl rfl (fun w' hS => val_fieldAddr (off := 2) (by kernel_rfl) rfl) ?_
              refine nS (by kernel_rfl : opAt F17.o10 1 = some (some 52, .load 3 (.tmp 51), none)) rfl rfl trivial (val_loadOwn hx.at_ (by kernel_rfl) rfl rfl) ?_
              refine yS (by kernel_rfl : opAt F17.o10 2 = some (some 53, .binOp .lss 3 (.tmp 52) (.const (.int .i64 (-65536))) 3, none)) rfl rfl (fun w' hS => val_F (val_lss rfl rfl) hA) ?_
              refine yS (by kernel_rfl : opAt F17.o10 3 = some (some 54, .move (.tmp 53), none)) rfl rfl (fun w' hS => val_move rfl) ?_
              refine yS (by kernel_rfl : opAt F17.o10 4 = some (some 55, .fieldAddr 46 (.tmp 8) 2, (some (3, false)))) rfl rfl (fun w' hS => val_fieldAddr (off := 2) (by kernel_rfl) rfl) ?_
              refine nS (by kernel_rfl : opAt F17.o10 5 = some (some 56, .load 3 (.tmp 55), (some (3, false)))) rfl rfl trivial (val_loadOwn hx.at_ (by kernel_rfl) rfl rfl) ?_
              refine yS (by kernel_rfl : opAt F17.o10 6 = some (some 57, .binOp .gtr 3 (.tmp 56) (.const (.int .i64 65536)) 3, (some (3, false)))) rfl rfl (fun w' hS => val_gtr rfl rfl) ?_
              refine yS (by kernel_rfl : opAt F17.o10 7 = some (some 58, .pick (.tmp 54) (.const (.bool true)) (.tmp 57), none)) rfl rfl (fun w' hS => val_pick_f rfl rfl) ?_
              refine yS (by kernel_rfl : opAt F17.o10 8 = some (some 50, .assign (.tmp 58), none)) rfl rfl (fun w' hS => val_assign rfl) ?_
              exact Sch.nil (hcut _ _ _ (Stp.refl _ _ _) rfl (by congr 1; apply decide_eq_decide.2; omega) (sub_skip rfl (sub_skip rfl (sub_skip rfl (sub_skip rfl (sub_skip rfl (sub_skip rfl (sub_skip rfl (sub_skip rfl (sub_skip rfl (Sub.refl _)))))))))))
          intro w11 hs
          replace hF := hF.st hs
          replace hT := hT.trans hs (by simp)
          replace hl := hl.st hs (by first | decide | (simp <;> omega))
          replace h27 := h27.st hs (by first | decide | (simp <;> omega))
          replace hx := hx.st hs (by first | decide | (simp <;> omega))
          refine run_if (x := F17.c42) (y := F17.c45) (o := .tmp 50) (by kernel_rfl) rfl (fun h50 => ?_) (fun h50 => ?_)
          · skip
            refine run_seq (x := F17.c43) (y := F17.c44) (by kernel_rfl) ?_
            refine run_plain (id := 11) (ops := F17.o11) [(0, true)] (by kernel_rfl) (by kernel_rfl) ?_
            refine yS (by kernel_rfl : opAt F17.o11 0 = some (some 6, .assign (.const (.int .i64 40)), none)) rfl rfl (fun w' hS => val_assign rfl) ?_
            refine Sch.nil ?_
            refine run_ret1 (by kernel_rfl) Try.func17 Try.results17 rfl ?_
            rw [if_neg h29, if_pos h50] at hE
            exact ⟨by rw [chkE_at h9 hlim hil h0 (by rw [hE]; decide), hE], hT.out1 (by decide)⟩
          · skip
            refine run_seq (x := F17.c46) (y := F17.c47) (by kernel_rfl) ?_
            refine run_cut 59 (decide (0 < i ∧ ¬ ltP (l[i-1]'(by omega)).k (l[i]'hil).k)) (Cw8) ?_ ?_
            · intro hcut
              by_cases hA : (0 : Int) < i
              · skip
                refine run_draw (id := 12) (ops := F17.o12) [] (Cw8) [(0, true), (1, true), (2, true), (3, true), (4, true), (5, true), (6, true), (7, true), (8, true), (9, false), (10, true), (11, true), (12, true)] Try_mixed (by kernel_rfl) (by kernel_rfl) (by kernel_rfl) ?_
                intro w12 hs
                replace hF := hF.st hs
                replace hT := hT.trans hs (by simp)
                replace hl := hl.st hs (by first | decide | (simp <;> omega))
                replace h27 := h27.st hs (by first | decide | (simp <;> omega))
                replace hx := hx.st hs (by first | decide | (simp <;> omega))
                have hcs := hs
                have hR := Stp.refl [] w12 (Cw8)
                refine yS (by kernel_rfl : opAt F17.o12 0 = some (some 60, .move (.tmp 7), none)) rfl rfl (fun w' hS => val_move rfl) ?_
                refine yS (by kernel_rfl : opAt F17.o12 1 = some (some 61, .binOp .gtr 3 (.tmp 60) (.const (.int .i64 0)) 3, none)) rfl rfl (fun w' hS => val_T (val_gtr rfl rfl) hA) ?_
                refine yS (by kernel_rfl : opAt F17.o12 2 = some (some 62, .move (.tmp 61), none)) rfl rfl (fun w' hS => val_move rfl) ?_
                refine yS (by kernel_rfl : opAt F17.o12 3 = some (some 63, .move (.tmp 2), (some (2, true)))) rfl rfl (fun w' hS => val_move rfl) ?_
                refine yS (by kernel_rfl : opAt F17.o12 4 = some (some 64, .move (.tmp 7), (some (2, true)))) rfl rfl (fun w' hS => val_move rfl) ?_
                refine yS (by kernel_rfl : opAt F17.o12 5 = some (some 65, .binOp .sub 3 (.tmp 64) (.const (.int .i64 1)) 3, (some (2, true)))) rfl rfl (fun w' hS => val_subi rfl rfl (by omega) (by omega)) ?_
                refine iS (e := 46) (by kernel_rfl : opAt F17.o12 6 = some (some 66, .indexAddr 23 (.tmp 63) (.tmp 65), (some (2, true)))) rfl rfl hl rfl (by kernel_rfl) rfl (by omega) (by omega) ?_
                intro b66 o66 h66
                try simp only [Int.toNat_natCast] at h66
                refine lSA (by kernel_rfl : opAt F17.o12 7 = some (some 67, .load 46 (.tmp 66), (some (2, true)))) rfl rfl (fun w' hS => h66.stay hS (by first | decide | (simp <;> omega))) h66 (by kernel_rfl) (by kernel_rfl) rfl rfl ?_
                intro v67 g67
                obtain rfl := rv_edge.1 g67
                refine yS (by kernel_rfl : opAt F17.o12 8 = some (some 68, .load 46 (.tmp 8), (some (2, true)))) rfl rfl (fun w' hS => val_loadOwnAgg (n := 3) (vs := encE (l[i]'hil)) (hx.stay hS (by decide)) (by kernel_rfl) (by kernel_rfl) rfl rfl rfl) ?_
                refine cS (by kernel_rfl : opAt F17.o12 9 = some (some 69, .call { callee := .value (.func 31), args := #[(.tmp 67), (.tmp 68)], argTypes := #[46, 46] }, (some (2, true)))) rfl rfl (ent Try.call31 rfl) (ecompare_ok (y := l[i]'hil) hF) ?_
                rintro vw13 w13 ⟨rfl, hs⟩
                refine ⟨(hR.trans hs (by simp)).ext, ?_⟩
                replace hF := hF.st hs
                replace hT := hT.trans hs (by simp)
                replace hl := hl.st hs (by first | decide | (simp <;> omega))
                replace h27 := h27.st hs (by first | decide | (simp <;> omega))
                replace hx := hx.st hs (by first | decide | (simp <;> omega))
                replace hcs := hcs.trans hs (by simp)
                replace hR := hR.trans hs (by simp)
                replace h66 := h66.st hs (by first | decide | (simp <;> omega))
                replace g67 := g67.st hs (by first | decide | (simp <;> omega))
                refine yS (by kernel_rfl : opAt F17.o12 10 = some (some 70, .binOp .geq 3 (.tmp 69) (.const (.int .i64 0)) 3, (some (2, true)))) rfl rfl (fun w' hS => val_geq rfl rfl) ?_
                refine yS (by kernel_rfl : opAt F17.o12 11 = some (some 71, .pick (.tmp 62) (.tmp 70) (.const (.bool false)), none)) rfl rfl (fun w' hS => val_pick_t rfl rfl) ?_
                refine yS (by kernel_rfl : opAt F17.o12 12 = some (some 59, .assign (.tmp 71), none)) rfl rfl (fun w' hS => val_assign rfl) ?_
                exact Sch.nil (hcut _ _ _ hcs rfl (by
  have e1 : ((i : Int) - 1).toNat = i - 1 := by omega
  congr 1; apply decide_eq_decide.2; simp only [e1]; rw [← cmpC_neg]; exact ⟨fun h => ⟨by omega, by omega⟩, fun h => by have := h.2; omega⟩) (sub_skip rfl (sub_skip rfl (sub_skip rfl (sub_skip rfl (sub_skip rfl (sub_skip rfl (sub_skip rfl (sub_skip rfl (sub_skip rfl (sub_skip rfl (sub_skip rfl (sub_skip rfl (sub_skip rfl (Sub.refl _)))))))))))))))
              · skip
                refine run_draw (id := 12) (ops := F17.o12) [] (Cw8) [(0, true), (1, true), (2, true), (3, true), (4, true), (5, true), (6, true), (7, true), (8, true), (9, false), (10, true), (11, true), (12, true)] Try_mixed (by kernel_rfl) (by kernel_rfl) (by kernel_rfl) ?_
                intro w14 hs
                replace hF := hF.st hs
                replace hT := hT.trans hs (by simp)
                replace hl := hl.st hs (by first | decide | (simp <;> omega))
                replace h27 := h27.st hs (by first | decide | (simp <;> omega))
                replace hx := hx.st hs (by first | decide | (simp <;> omega))
                have hcs := hs
                have hR := Stp.refl [] w14 (Cw8)
                refine yS (by kernel_rfl : opAt F17.o12 0 = some (some 60, .move (.tmp 7), none)) rfl rfl (fun w' hS => val_move rfl) ?_
                refine yS (by kernel_rfl : opAt F17.o12 1 = some (some 61, .binOp .gtr 3 (.tmp 60) (.const (.int .i64 0)) 3, none)) rfl rfl (fun w' hS => val_F (val_gtr rfl rfl) hA) ?_
                refine yS (by kernel_rfl : opAt F17.o12 2 = some (some 62, .move (.tmp 61), none)) rfl rfl (fun w' hS => val_move rfl) ?_
                refine pS (by kernel_rfl : opAt F17.o12 3 = some (some 63, .move (.tmp 2), (some (2, true)))) rfl rfl ?_
                refine pS (by kernel_rfl : opAt F17.o12 4 = some (some 64, .move (.tmp 7), (some (2, true)))) rfl rfl ?_
                refine pS (by kernel_rfl : opAt F17.o12 5 = some (some 65, .binOp .sub 3 (.tmp 64) (.const (.int .i64 1)) 3, (some (2, true)))) rfl rfl ?_
                refine pS (by kernel_rfl : opAt F17.o12 6 = some (some 66, .indexAddr 23 (.tmp 63) (.tmp 65), (some (2, true)))) rfl rfl ?_
                refine pS (by kernel_rfl : opAt F17.o12 7 = some (some 67, .load 46 (.tmp 66), (some (2, true)))) rfl rfl ?_
                refine pS (by kernel_rfl : opAt F17.o12 8 = some (some 68, .load 46 (.tmp 8), (some (2, true)))) rfl rfl ?_
                refine pW (by kernel_rfl : opAt F17.o12 9 = some (some 69, .call { callee := .value (.func 31), args := #[(.tmp 67), (.tmp 68)], argTypes := #[46, 46] }, (some (2, true)))) rfl rfl hR.ext ?_
                refine pS (by kernel_rfl : opAt F17.o12 10 = some (some 70, .binOp .geq 3 (.tmp 69) (.const (.int .i64 0)) 3, (some (2, true)))) rfl rfl ?_
                refine yS (by kernel_rfl : opAt F17.o12 11 = some (some 71, .pick (.tmp 62) (.tmp 70) (.const (.bool false)), none)) rfl rfl (fun w' hS => val_pick_f rfl rfl) ?_
                refine yS (by kernel_rfl : opAt F17.o12 12 = some (some 59, .assign (.tmp 71), none)) rfl rfl (fun w' hS => val_assign rfl) ?_
                exact Sch.nil (hcut _ _ _ hcs rfl (by rw [decide_eq_false (fun e => hA (by omega))]) (sub_skip rfl (sub_skip rfl (sub_skip rfl (sub_skip rfl (sub_skip rfl (sub_skip rfl (sub_skip rfl (sub_skip rfl (sub_skip rfl (sub_skip rfl (sub_skip rfl (sub_skip rfl (sub_skip rfl (Sub.refl _)))))))))))))))
            intro w15 hs
            replace hF := hF.st hs
            replace hT := hT.trans hs (by simp)
            replace hl := hl.st hs (by first | decide | (simp <;> omega))
            replace h27 := h27.st hs (by first | decide | (simp <;> omega))
            replace hx := hx.st hs (by first | decide | (simp <;> omega))
            refine run_if (x := F17.c48) (y := F17.c51) (o := .tmp 59) (by kernel_rfl) rfl (fun h59 => ?_) (fun h59 => ?_)
            · skip
              refine run_seq (x := F17.c49) (y := F17.c50) (by kernel_rfl) ?_
              refine run_plain (id := 13) (ops := F17.o13) [(0, true)] (by kernel_rfl) (by kernel_rfl) ?_
              refine yS (by kernel_rfl : opAt F17.o13 0 = some (some 6, .assign (.const (.int .i64 12)), none)) rfl rfl (fun w' hS => val_assign rfl) ?_
              refine Sch.nil ?_
              refine run_ret1 (by kernel_rfl) Try.func17 Try.results17 rfl ?_
              rw [if_neg h29, if_neg h50, if_pos h59] at hE
              exact ⟨by rw [chkE_at h9 hlim hil h0 (by rw [hE]; decide), hE], hT.out1 (by decide)⟩
            · skip
              refine run_skip (by kernel_rfl) ?_
              refine run_inBlock ?_
              refine run_inBlock ?_
              refine run_plain (id := 14) (ops := F17.o14) [(0, true), (1, true)] (by kernel_rfl) (by kernel_rfl) ?_
              refine yS (by kernel_rfl : opAt F17.o14 0 = some (some 72, .binOp .add 3 (.tmp 24) (.const (.int .i64 1)) 3, none)) rfl rfl (fun w' hS => val_addi rfl rfl (by omega) (by omega)) ?_
              refine yS (by kernel_rfl : opAt F17.o14 1 = some (some 24, .move (.tmp 72), none)) rfl rfl (fun w' hS => val_move rfl) ?_
              refine Sch.nil ?_
              refine kp (sub_cons 0 rfl rfl (sub_cons 1 rfl rfl (sub_cons 2 rfl rfl (sub_cons 22 rfl rfl (sub_cons 23 rfl rfl (sub_cons 24 rfl (eq_int (by simp)) (sub_nil _))))))) (next1 (i + 1, Cw8) _ ⟨(by first | omega | (simp only; omega)), (fun k hk => by
                  simp only at hk
                  by_cases e : k = i
                  · subst e; rw [hE, if_neg h29, if_neg h50, if_neg h59]
                  · exact h0 k (by omega)), hF, hT, hl⟩ (by first | omega | (simp only; omega)))
      · skip
        have hil : i = l.length := by omega
        refine run_exit (id := 1) (by kernel_rfl) rfl ?_
        refine run_seq (x := F17.c54) (y := F17.c55) (by kernel_rfl) ?_
        refine run_plain (id := 15) (ops := F17.o15) [(0, true)] (by kernel_rfl) (by kernel_rfl) ?_
        refine yS (by kernel_rfl : opAt F17.o15 0 = some (some 6, .assign (.const (.int .i64 0)), none)) rfl rfl (fun w' hS => val_assign rfl) ?_
        refine Sch.nil ?_
        refine run_ret1 (by kernel_rfl) Try.func17 Try.results17 rfl ?_
        subst hil
        exact ⟨by rw [chkE_ok h9 hlim h0], hT.out1 (by decide)⟩
end Go.Proofs.Ytgooehopkmbkfaa
