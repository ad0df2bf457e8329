/- Steps through functions of the program. -/
import Derived.Test.YtbdlkdiadplmcaaJD3
import Derived.Test.YtbdlkdiadplmcaaL1
set_option linter.unusedVariables false
set_option linter.unusedSimpArgs false
set_option maxRecDepth 100000
set_option maxHeartbeats 4000000
namespace Go.Proofs.Ytbdlkdiadplmcaa
open Go.K Go.K.Rep

namespace F50
noncomputable def c0 : Code := bodyOf Try.f50
noncomputable def c1 : Code := cl c0
noncomputable def o0 : Array Oper := rops c1
noncomputable def c2 : Code := cr c0
noncomputable def c3 : Code := cl c2
noncomputable def o1 : Array Oper := rops c3
noncomputable def c4 : Code := cr c2
noncomputable def c5 : Code := cl c4
noncomputable def c6 : Code := cl c5
noncomputable def o2 : Array Oper := rops c6
noncomputable def c7 : Code := cr c5
noncomputable def c8 : Code := cl c7
noncomputable def c9 : Code := cl c8
noncomputable def c10 : Code := cl c9
noncomputable def o3 : Array Oper := rops c10
noncomputable def c11 : Code := cr c9
noncomputable def c12 : Code := cl c11
noncomputable def c13 : Code := cl c12
noncomputable def c14 : Code := cr c12
noncomputable def c15 : Code := cr c11
noncomputable def c16 : Code := cl c15
noncomputable def c17 : Code := cl c16
noncomputable def c18 : Code := cl c17
noncomputable def o4 : Array Oper := rops c18
noncomputable def c19 : Code := cr c17
noncomputable def c20 : Code := cl c19
noncomputable def o5 : Array Oper := rops c20
noncomputable def c21 : Code := cr c19
noncomputable def c22 : Code := cl c21
noncomputable def c23 : Code := cl c22
noncomputable def o6 : Array Oper := rops c23
noncomputable def c24 : Code := cr c22
noncomputable def c25 : Code := cr c21
noncomputable def c26 : Code := cr c15
noncomputable def o7 : Array Oper := rops c26
noncomputable def c27 : Code := cr c4
noncomputable def c28 : Code := cl c27
noncomputable def o8 : Array Oper := rops c28
noncomputable def c29 : Code := cr c27
end F50
/-- 'cmp.Or'. -/
theorem orI_ok {w₀ : World} {M : Nat → Prop} {l : List Int} {vl : Value} (hl : RV w₀ M l vl) : Calls Try.prog 50 #[vl] w₀ (Ret fun v w' => v = .int .i64 (orL l) ∧ w' = w₀) := by
  refine calls_start (c := F50.c0) (N := 18) [vl] Try.func50 (by kernel_rfl) (by kernel_rfl) (by kernel_rfl) ?_
  show Run _ _ _ _ [(0, vl)] _ _
  refine run_seq (x := F50.c1) (y := F50.c2) (by kernel_rfl) ?_
  refine run_plain (id := 0) (ops := F50.o0) [(0, true)] (by kernel_rfl) (by kernel_rfl) ?_
  refine yS (by kernel_rfl : opAt F50.o0 0 = some (some 2, .assign (.const (.int .i64 0)), none)) rfl rfl (fun w' hS => val_assign rfl) ?_
  refine Sch.nil ?_
  refine run_seq (x := F50.c3) (y := F50.c4) (by kernel_rfl) ?_
  refine run_plain (id := 1) (ops := F50.o1) [(0, true)] (by kernel_rfl) (by kernel_rfl) ?_
  refine yS (by kernel_rfl : opAt F50.o1 0 = some (some 3, .assign (.const (.int .i64 0)), none)) rfl rfl (fun w' hS => val_assign rfl) ?_
  refine Sch.nil ?_
  refine run_seq (x := F50.c5) (y := F50.c27) (by kernel_rfl) ?_
  refine run_seq (x := F50.c6) (y := F50.c7) (by kernel_rfl) ?_
  refine run_plain (id := 2) (ops := F50.o2) [(0, true), (1, true), (2, true)] (by kernel_rfl) (by kernel_rfl) ?_
  refine yS (by kernel_rfl : opAt F50.o2 0 = some (some 6, .move (.tmp 0), none)) rfl rfl (fun w' hS => val_move rfl) ?_
  refine yS (by kernel_rfl : opAt F50.o2 1 = some (some 7, .call { callee := .builtin .len, args := #[(.tmp 6)], argTypes := #[22] }, none)) rfl rfl (fun w' hS => hl.lenV rfl Try.underlying22 w' ) ?_
  refine yS (by kernel_rfl : opAt F50.o2 2 = some (some 8, .move (.const (.int .i64 0)), none)) rfl rfl (fun w' hS => val_move rfl) ?_
  refine Sch.nil ?_
  refine run_block (x := F50.c8) (id := 0) (by kernel_rfl) ?_
  refine run_loop (ι := Nat) (I := fun x w => x ≤ l.length ∧ w = w₀ ∧ orL (l.drop x) = orL l) (e := fun x => [(3, .int .i64 0), (6, vl), (7, .int .i64 l.length), (8, .int .i64 x)]) (m := fun x => l.length - x) (x₀ := 0) (body := F50.c9) (by kernel_rfl) (sub_cons 3 rfl rfl (sub_cons 6 rfl rfl (sub_cons 7 rfl rfl (sub_cons 8 rfl rfl (sub_nil _))))) ?_ ?_
  · exact ⟨Nat.zero_le _, rfl, rfl⟩
  intro i w1 hI next
  obtain ⟨hi, rfl, ho⟩ := hI
  have hll := hl.le
  refine run_seq (x := F50.c10) (y := F50.c11) (by kernel_rfl) ?_
  refine run_plain (id := 3) (ops := F50.o3) [(0, true)] (by kernel_rfl) (by kernel_rfl) ?_
  refine yS (by kernel_rfl : opAt F50.o3 0 = some (some 9, .binOp .lss 3 (.tmp 8) (.tmp 7) 3, none)) rfl rfl (fun w' hS => val_lss rfl rfl) ?_
  refine Sch.nil ?_
  refine run_seq (x := F50.c12) (y := F50.c15) (by kernel_rfl) ?_
  refine run_if (x := F50.c13) (y := F50.c14) (o := .tmp 9) (by kernel_rfl) rfl (fun h9 => ?_) (fun h9 => ?_)
  · skip
    have hil : i < l.length := by omega
    rw [orL_drop hil] at ho
    refine run_skip (by kernel_rfl) ?_
    refine run_seq (x := F50.c16) (y := F50.c26) (by kernel_rfl) ?_
    refine run_block (x := F50.c17) (id := 1) (by kernel_rfl) ?_
    refine run_seq (x := F50.c18) (y := F50.c19) (by kernel_rfl) ?_
    refine run_plain (id := 4) (ops := F50.o4) [(0, true), (1, false), (2, true)] (by kernel_rfl) (by kernel_rfl) ?_
    refine iS (e := 3) (by kernel_rfl : opAt F50.o4 0 = some (some 10, .indexAddr 22 (.tmp 6) (.tmp 8), none)) rfl rfl hl rfl (by kernel_rfl) rfl (by omega) (by omega) ?_
    intro b10 o10 h10
    try simp only [Int.toNat_natCast] at h10
    refine lN (by kernel_rfl : opAt F50.o4 1 = some (some 11, .load 3 (.tmp 10), none)) rfl rfl trivial h10 (by kernel_rfl) rfl rfl ?_
    intro v11 g11
    first | (obtain rfl := rv_nat.1 g11) | (obtain rfl := rv_int.1 g11)
    refine yS (by kernel_rfl : opAt F50.o4 2 = some (some 5, .assign (.tmp 11), none)) rfl rfl (fun w' hS => val_assign rfl) ?_
    refine Sch.nil ?_
    refine run_seq (x := F50.c20) (y := F50.c21) (by kernel_rfl) ?_
    refine run_plain (id := 5) (ops := F50.o5) [(0, true), (1, true), (2, true)] (by kernel_rfl) (by kernel_rfl) ?_
    refine yS (by kernel_rfl : opAt F50.o5 0 = some (some 12, .move (.tmp 5), none)) rfl rfl (fun w' hS => val_move rfl) ?_
    refine yS (by kernel_rfl : opAt F50.o5 1 = some (some 13, .move (.tmp 3), none)) rfl rfl (fun w' hS => val_move rfl) ?_
    refine yS (by kernel_rfl : opAt F50.o5 2 = some (some 14, .binOp .neq 3 (.tmp 12) (.tmp 13) 3, none)) rfl rfl (fun w' hS => val_neq rfl rfl) ?_
    refine Sch.nil ?_
    refine run_if (x := F50.c22) (y := F50.c25) (o := .tmp 14) (by kernel_rfl) rfl (fun h14 => ?_) (fun h14 => ?_)
    · skip
      rw [if_neg h14] at ho
      refine run_seq (x := F50.c23) (y := F50.c24) (by kernel_rfl) ?_
      refine run_plain (id := 6) (ops := F50.o6) [(0, true), (1, true)] (by kernel_rfl) (by kernel_rfl) ?_
      refine yS (by kernel_rfl : opAt F50.o6 0 = some (some 15, .move (.tmp 5), none)) rfl rfl (fun w' hS => val_move rfl) ?_
      refine yS (by kernel_rfl : opAt F50.o6 1 = some (some 2, .assign (.tmp 15), none)) rfl rfl (fun w' hS => val_assign rfl) ?_
      refine Sch.nil ?_
      refine run_ret1 (by kernel_rfl) Try.func50 Try.results50 rfl ?_
      exact ⟨by rw [ho], rfl⟩
    · skip
      have h14 : l[i] = 0 := by simpa using h14
      rw [if_pos h14] at ho
      refine run_skip (by kernel_rfl) ?_
      refine run_inBlock ?_
      refine run_plain (id := 7) (ops := F50.o7) [(0, true), (1, true)] (by kernel_rfl) (by kernel_rfl) ?_
      refine yS (by kernel_rfl : opAt F50.o7 0 = some (some 16, .binOp .add 3 (.tmp 8) (.const (.int .i64 1)) 3, none)) rfl rfl (fun w' hS => val_addi rfl rfl (by omega) (by omega)) ?_
      refine yS (by kernel_rfl : opAt F50.o7 1 = some (some 8, .move (.tmp 16), none)) rfl rfl (fun w' hS => val_move rfl) ?_
      refine Sch.nil ?_
      refine kp ?_ (next (i + 1) _ ⟨by omega, rfl, ho⟩ (by omega))
      exact sub_cons 3 rfl rfl (sub_cons 6 rfl rfl (sub_cons 7 rfl rfl (sub_cons 8 rfl (eq_int (by simp)) (sub_nil _))))
  · skip
    have hil : i = l.length := by omega
    refine run_exit (id := 0) (by kernel_rfl) rfl ?_
    refine run_seq (x := F50.c28) (y := F50.c29) (by kernel_rfl) ?_
    refine run_plain (id := 8) (ops := F50.o8) [(0, true), (1, true)] (by kernel_rfl) (by kernel_rfl) ?_
    refine yS (by kernel_rfl : opAt F50.o8 0 = some (some 17, .move (.tmp 3), none)) rfl rfl (fun w' hS => val_move rfl) ?_
    refine yS (by kernel_rfl : opAt F50.o8 1 = some (some 2, .assign (.tmp 17), none)) rfl rfl (fun w' hS => val_assign rfl) ?_
    refine Sch.nil ?_
    refine run_ret1 (by kernel_rfl) Try.func50 Try.results50 rfl ?_
    subst hil
    rw [List.drop_length] at ho
    exact ⟨by rw [← ho]; rfl, rfl⟩
namespace F61
noncomputable def c0 : Code := bodyOf Try.f61
noncomputable def c1 : Code := cl c0
noncomputable def o0 : Array Oper := rops c1
noncomputable def c2 : Code := cr c0
noncomputable def c3 : Code := cl c2
noncomputable def o1 : Array Oper := rops c3
noncomputable def c4 : Code := cr c2
end F61
theorem isNaN_ok (x : Int) (w : World) : Calls Try.prog 61 #[.int .i64 x] w (Ret fun v w' => v = .bool false ∧ w' = w) := by
  refine calls_start (c := F61.c0) (N := 6) [.int .i64 x] Try.func61 (by kernel_rfl) (by kernel_rfl) (by kernel_rfl) ?_
  show Run _ _ _ _ [(0, .int .i64 x)] _ _
  refine run_seq (x := F61.c1) (y := F61.c2) (by kernel_rfl) ?_
  refine run_plain (id := 0) (ops := F61.o0) [(0, true)] (by kernel_rfl) (by kernel_rfl) ?_
  refine yS (by kernel_rfl : opAt F61.o0 0 = some (some 2, .assign (.const (.bool false)), none)) rfl rfl (fun w' hS => val_assign rfl) ?_
  refine Sch.nil ?_
  refine run_seq (x := F61.c3) (y := F61.c4) (by kernel_rfl) ?_
  refine run_plain (id := 1) (ops := F61.o1) [(0, true), (1, true), (2, true), (3, true)] (by kernel_rfl) (by kernel_rfl) ?_
  refine yS (by kernel_rfl : opAt F61.o1 0 = some (some 3, .move (.tmp 0), none)) rfl rfl (fun w' hS => val_move rfl) ?_
  refine yS (by kernel_rfl : opAt F61.o1 1 = some (some 4, .move (.tmp 0), none)) rfl rfl (fun w' hS => val_move rfl) ?_
  refine yS (by kernel_rfl : opAt F61.o1 2 = some (some 5, .binOp .neq 3 (.tmp 3) (.tmp 4) 3, none)) rfl rfl (fun w' hS => val_neq rfl rfl) ?_
  refine yS (by kernel_rfl : opAt F61.o1 3 = some (some 2, .assign (.tmp 5), none)) rfl rfl (fun w' hS => val_assign rfl) ?_
  refine Sch.nil ?_
  refine run_ret1 (by kernel_rfl) Try.func61 Try.results61 rfl ?_
  exact ⟨by simp, rfl⟩
namespace F51
noncomputable def c0 : Code := bodyOf Try.f51
noncomputable def c1 : Code := cl c0
noncomputable def o0 : Array Oper := rops c1
noncomputable def c2 : Code := cr c0
noncomputable def c3 : Code := cl c2
noncomputable def o1 : Array Oper := rops c3
noncomputable def c4 : Code := cr c2
noncomputable def c5 : Code := cl c4
noncomputable def o2 : Array Oper := rops c5
noncomputable def c6 : Code := cr c4
noncomputable def c7 : Code := cl c6
noncomputable def c8 : Code := cl c7
noncomputable def o3 : Array Oper := rops c8
noncomputable def c9 : Code := cr c7
noncomputable def c10 : Code := cl c9
noncomputable def c11 : Code := cl c10
noncomputable def c12 : Code := cl c11
noncomputable def o4 : Array Oper := rops c12
noncomputable def c13 : Code := cr c11
noncomputable def c14 : Code := cl c13
noncomputable def c15 : Code := cl c14
noncomputable def o5 : Array Oper := rops c15
noncomputable def c16 : Code := cr c14
noncomputable def c17 : Code := cr c13
noncomputable def c18 : Code := cr c10
noncomputable def c19 : Code := cl c18
noncomputable def o6 : Array Oper := rops c19
noncomputable def c20 : Code := cr c18
noncomputable def c21 : Code := cr c9
noncomputable def c22 : Code := cr c6
noncomputable def c23 : Code := cl c22
noncomputable def c24 : Code := cl c23
noncomputable def o7 : Array Oper := rops c24
noncomputable def c25 : Code := cr c23
noncomputable def c26 : Code := cl c25
noncomputable def c27 : Code := cl c26
noncomputable def o8 : Array Oper := rops c27
noncomputable def c28 : Code := cr c26
noncomputable def c29 : Code := cr c25
noncomputable def c30 : Code := cr c22
noncomputable def c31 : Code := cl c30
noncomputable def c32 : Code := cl c31
noncomputable def o9 : Array Oper := rops c32
noncomputable def c33 : Code := cr c31
noncomputable def c34 : Code := cl c33
noncomputable def c35 : Code := cl c34
noncomputable def o10 : Array Oper := rops c35
noncomputable def c36 : Code := cr c34
noncomputable def c37 : Code := cr c33
noncomputable def c38 : Code := cr c30
noncomputable def c39 : Code := cl c38
noncomputable def c40 : Code := cl c39
noncomputable def o11 : Array Oper := rops c40
noncomputable def c41 : Code := cr c39
noncomputable def c42 : Code := cl c41
noncomputable def c43 : Code := cl c42
noncomputable def o12 : Array Oper := rops c43
noncomputable def c44 : Code := cr c42
noncomputable def c45 : Code := cr c41
noncomputable def c46 : Code := cr c38
noncomputable def c47 : Code := cl c46
noncomputable def o13 : Array Oper := rops c47
noncomputable def c48 : Code := cr c46
end F51
/-- 'cmp.Compare'. -/
theorem cmpI_ok (x y : Int) (w : World) : Calls Try.prog 51 #[.int .i64 x, .int .i64 y] w (Ret fun v w' => v = .int .i64 (cmpI x y) ∧ w' = w) := by
  refine calls_start (c := F51.c0) (N := 20) [.int .i64 x, .int .i64 y] Try.func51 (by kernel_rfl) (by kernel_rfl) (by kernel_rfl) ?_
  show Run _ _ _ _ [(0, .int .i64 x), (1, .int .i64 y)] _ _
  refine run_seq (x := F51.c1) (y := F51.c2) (by kernel_rfl) ?_
  refine run_plain (id := 0) (ops := F51.o0) [(0, true)] (by kernel_rfl) (by kernel_rfl) ?_
  refine yS (by kernel_rfl : opAt F51.o0 0 = some (some 4, .assign (.const (.int .i64 0)), none)) rfl rfl (fun w' hS => val_assign rfl) ?_
  refine Sch.nil ?_
  refine run_seq (x := F51.c3) (y := F51.c4) (by kernel_rfl) ?_
  refine run_plain (id := 1) (ops := F51.o1) [(0, true), (1, false), (2, true)] (by kernel_rfl) (by kernel_rfl) ?_
  refine yS (by kernel_rfl : opAt F51.o1 0 = some (some 7, .move (.tmp 0), none)) rfl rfl (fun w' hS => val_move rfl) ?_
  refine cS (by kernel_rfl : opAt F51.o1 1 = some (some 8, .call { callee := .value (.func 61), args := #[(.tmp 7)], argTypes := #[3] }, none)) rfl rfl (ent Try.call61 rfl) (isNaN_ok _ _) ?_
  rintro vw1 w1 ⟨rfl, rfl⟩
  refine ⟨trivial, ?_⟩
  refine yS (by kernel_rfl : opAt F51.o1 2 = some (some 5, .assign (.tmp 8), none)) rfl rfl (fun w' hS => val_assign rfl) ?_
  refine Sch.nil ?_
  refine run_seq (x := F51.c5) (y := F51.c6) (by kernel_rfl) ?_
  refine run_plain (id := 2) (ops := F51.o2) [(0, true), (1, false), (2, true)] (by kernel_rfl) (by kernel_rfl) ?_
  refine yS (by kernel_rfl : opAt F51.o2 0 = some (some 9, .move (.tmp 1), none)) rfl rfl (fun w' hS => val_move rfl) ?_
  refine cS (by kernel_rfl : opAt F51.o2 1 = some (some 10, .call { callee := .value (.func 61), args := #[(.tmp 9)], argTypes := #[3] }, none)) rfl rfl (ent Try.call61 rfl) (isNaN_ok _ _) ?_
  rintro vw2 w2 ⟨rfl, rfl⟩
  refine ⟨trivial, ?_⟩
  refine yS (by kernel_rfl : opAt F51.o2 2 = some (some 6, .assign (.tmp 10), none)) rfl rfl (fun w' hS => val_assign rfl) ?_
  refine Sch.nil ?_
  refine run_seq (x := F51.c7) (y := F51.c22) (by kernel_rfl) ?_
  refine run_seq (x := F51.c8) (y := F51.c9) (by kernel_rfl) ?_
  refine run_plain (id := 3) (ops := F51.o3) [(0, true)] (by kernel_rfl) (by kernel_rfl) ?_
  refine yS (by kernel_rfl : opAt F51.o3 0 = some (some 11, .move (.tmp 5), none)) rfl rfl (fun w' hS => val_move rfl) ?_
  refine Sch.nil ?_
  refine run_cond (x := F51.c10) (y := F51.c21) (o := .tmp 11) (b := false) (by kernel_rfl) rfl (fun h => by cases h) (fun _ => ?_)
  refine run_skip (by kernel_rfl) ?_
  refine run_seq (x := F51.c23) (y := F51.c30) (by kernel_rfl) ?_
  refine run_seq (x := F51.c24) (y := F51.c25) (by kernel_rfl) ?_
  refine run_plain (id := 7) (ops := F51.o7) [(0, true)] (by kernel_rfl) (by kernel_rfl) ?_
  refine yS (by kernel_rfl : opAt F51.o7 0 = some (some 13, .move (.tmp 6), none)) rfl rfl (fun w' hS => val_move rfl) ?_
  refine Sch.nil ?_
  refine run_cond (x := F51.c26) (y := F51.c29) (o := .tmp 13) (b := false) (by kernel_rfl) rfl (fun h => by cases h) (fun _ => ?_)
  refine run_skip (by kernel_rfl) ?_
  refine run_seq (x := F51.c31) (y := F51.c38) (by kernel_rfl) ?_
  refine run_seq (x := F51.c32) (y := F51.c33) (by kernel_rfl) ?_
  refine run_plain (id := 9) (ops := F51.o9) [(0, true), (1, true), (2, true)] (by kernel_rfl) (by kernel_rfl) ?_
  refine yS (by kernel_rfl : opAt F51.o9 0 = some (some 14, .move (.tmp 0), none)) rfl rfl (fun w' hS => val_move rfl) ?_
  refine yS (by kernel_rfl : opAt F51.o9 1 = some (some 15, .move (.tmp 1), none)) rfl rfl (fun w' hS => val_move rfl) ?_
  refine yS (by kernel_rfl : opAt F51.o9 2 = some (some 16, .binOp .lss 3 (.tmp 14) (.tmp 15) 3, none)) rfl rfl (fun w' hS => val_lss rfl rfl) ?_
  refine Sch.nil ?_
  refine run_if (x := F51.c34) (y := F51.c37) (o := .tmp 16) (by kernel_rfl) rfl (fun h16 => ?_) (fun h16 => ?_)
  · skip
    refine run_seq (x := F51.c35) (y := F51.c36) (by kernel_rfl) ?_
    refine run_plain (id := 10) (ops := F51.o10) [(0, true)] (by kernel_rfl) (by kernel_rfl) ?_
    refine yS (by kernel_rfl : opAt F51.o10 0 = some (some 4, .assign (.const (.int .i64 (-1))), none)) rfl rfl (fun w' hS => val_assign rfl) ?_
    refine Sch.nil ?_
    refine run_ret1 (by kernel_rfl) Try.func51 Try.results51 rfl ?_
    exact ⟨eq_int (by unfold cmpI; split <;> (try split) <;> omega), rfl⟩
  · skip
    refine run_skip (by kernel_rfl) ?_
    refine run_seq (x := F51.c39) (y := F51.c46) (by kernel_rfl) ?_
    refine run_seq (x := F51.c40) (y := F51.c41) (by kernel_rfl) ?_
    refine run_plain (id := 11) (ops := F51.o11) [(0, true), (1, true), (2, true)] (by kernel_rfl) (by kernel_rfl) ?_
    refine yS (by kernel_rfl : opAt F51.o11 0 = some (some 17, .move (.tmp 0), none)) rfl rfl (fun w' hS => val_move rfl) ?_
    refine yS (by kernel_rfl : opAt F51.o11 1 = some (some 18, .move (.tmp 1), none)) rfl rfl (fun w' hS => val_move rfl) ?_
    refine yS (by kernel_rfl : opAt F51.o11 2 = some (some 19, .binOp .gtr 3 (.tmp 17) (.tmp 18) 3, none)) rfl rfl (fun w' hS => val_gtr rfl rfl) ?_
    refine Sch.nil ?_
    refine run_if (x := F51.c42) (y := F51.c45) (o := .tmp 19) (by kernel_rfl) rfl (fun h19 => ?_) (fun h19 => ?_)
    · skip
      refine run_seq (x := F51.c43) (y := F51.c44) (by kernel_rfl) ?_
      refine run_plain (id := 12) (ops := F51.o12) [(0, true)] (by kernel_rfl) (by kernel_rfl) ?_
      refine yS (by kernel_rfl : opAt F51.o12 0 = some (some 4, .assign (.const (.int .i64 1)), none)) rfl rfl (fun w' hS => val_assign rfl) ?_
      refine Sch.nil ?_
      refine run_ret1 (by kernel_rfl) Try.func51 Try.results51 rfl ?_
      exact ⟨eq_int (by unfold cmpI; split <;> (try split) <;> omega), rfl⟩
    · skip
      refine run_skip (by kernel_rfl) ?_
      refine run_seq (x := F51.c47) (y := F51.c48) (by kernel_rfl) ?_
      refine run_plain (id := 13) (ops := F51.o13) [(0, true)] (by kernel_rfl) (by kernel_rfl) ?_
      refine yS (by kernel_rfl : opAt F51.o13 0 = some (some 4, .assign (.const (.int .i64 0)), none)) rfl rfl (fun w' hS => val_assign rfl) ?_
      refine Sch.nil ?_
      refine run_ret1 (by kernel_rfl) Try.func51 Try.results51 rfl ?_
      exact ⟨eq_int (by unfold cmpI; split <;> (try split) <;> omega), rfl⟩
namespace F49
noncomputable def c0 : Code := bodyOf Try.f49
noncomputable def c1 : Code := cl c0
noncomputable def o0 : Array Oper := rops c1
noncomputable def c2 : Code := cr c0
noncomputable def c3 : Code := cl c2
noncomputable def o1 : Array Oper := rops c3
noncomputable def c4 : Code := cr c2
end F49
theorem right_ok {w₀ : World} {C : Nat → Nat} (x : Int) (hF : Lim w₀ C) : Calls Try.prog 49 #[.int .i64 x] w₀ (Ret fun v w' => v = .bool (rightB x) ∧ Stp [] w₀ C w' C) := by
  have hF0 := hF
  have hT := Stp.refl [2, 3, 4, 5, 6, 7, 8, 9] w₀ (col1 C)
  replace hF := hF.col1
  refine calls_start (c := F49.c0) (N := 14) [.int .i64 x] Try.func49 (by kernel_rfl) (by kernel_rfl) (by kernel_rfl) ?_
  show Run _ _ _ _ [(0, .int .i64 x)] _ _
  refine run_seq (x := F49.c1) (y := F49.c2) (by kernel_rfl) ?_
  refine run_plain (id := 0) (ops := F49.o0) [(0, true)] (by kernel_rfl) (by kernel_rfl) ?_
  refine yS (by kernel_rfl : opAt F49.o0 0 = some (some 2, .assign (.const (.bool false)), none)) rfl rfl (fun w' hS => val_assign rfl) ?_
  refine Sch.nil ?_
  refine kp (sub_cons 0 rfl rfl (sub_nil _)) ?_
  refine run_seq (x := F49.c3) (y := F49.c4) (by kernel_rfl) ?_
  refine run_cut 2 (rightB x) (col1 C) ?_ ?_
  · intro hcut
    by_cases hA : 64 ≤ x
    · skip
      by_cases hB : x ≤ 512
      · skip
        refine run_plain (id := 1) (ops := F49.o1) [(0, true), (1, true), (2, true), (3, true), (4, true), (5, true), (6, true), (7, true), (8, true), (9, true), (10, true), (11, true)] (by kernel_rfl) (by kernel_rfl) ?_
        refine yS (by kernel_rfl : opAt F49.o1 0 = some (some 3, .move (.tmp 0), none)) rfl rfl (fun w' hS => val_move rfl) ?_
        refine yS (by kernel_rfl : opAt F49.o1 1 = some (some 4, .binOp .geq 3 (.tmp 3) (.const (.int .i64 64)) 3, none)) rfl rfl (fun w' hS => val_T (val_geq rfl rfl) hA) ?_
        refine yS (by kernel_rfl : opAt F49.o1 2 = some (some 5, .move (.tmp 4), none)) rfl rfl (fun w' hS => val_move rfl) ?_
        refine yS (by kernel_rfl : opAt F49.o1 3 = some (some 6, .move (.tmp 0), (some (2, true)))) rfl rfl (fun w' hS => val_move rfl) ?_
        refine yS (by kernel_rfl : opAt F49.o1 4 = some (some 7, .binOp .leq 3 (.tmp 6) (.const (.int .i64 512)) 3, (some (2, true)))) rfl rfl (fun w' hS => val_T (val_leq rfl rfl) hB) ?_
        refine yS (by kernel_rfl : opAt F49.o1 5 = some (some 8, .pick (.tmp 5) (.tmp 7) (.const (.bool false)), none)) rfl rfl (fun w' hS => val_pick_t rfl rfl) ?_
        refine yS (by kernel_rfl : opAt F49.o1 6 = some (some 9, .move (.tmp 8), none)) rfl rfl (fun w' hS => val_move rfl) ?_
        refine yS (by kernel_rfl : opAt F49.o1 7 = some (some 10, .move (.tmp 0), (some (6, true)))) rfl rfl (fun w' hS => val_move rfl) ?_
        refine yS (by kernel_rfl : opAt F49.o1 8 = some (some 11, .binOp .rem 3 (.tmp 10) (.const (.int .i64 64)) 3, (some (6, true)))) rfl rfl (fun w' hS => val_modi rfl rfl (by omega) (by omega)) ?_
        refine yS (by kernel_rfl : opAt F49.o1 9 = some (some 12, .binOp .eql 3 (.tmp 11) (.const (.int .i64 0)) 3, (some (6, true)))) rfl rfl (fun w' hS => val_eql rfl rfl) ?_
        refine yS (by kernel_rfl : opAt F49.o1 10 = some (some 13, .pick (.tmp 9) (.tmp 12) (.const (.bool false)), none)) rfl rfl (fun w' hS => val_pick_t rfl rfl) ?_
        refine yS (by kernel_rfl : opAt F49.o1 11 = some (some 2, .assign (.tmp 13), none)) rfl rfl (fun w' hS => val_assign rfl) ?_
        exact Sch.nil (hcut _ _ _ (Stp.refl _ _ _) rfl (by unfold rightB; rw [decide_eq_true hA, decide_eq_true hB]; rfl) (sub_skip rfl (sub_skip rfl (sub_skip rfl (sub_skip rfl (sub_skip rfl (sub_skip rfl (sub_skip rfl (sub_skip rfl (sub_skip rfl (sub_skip rfl (sub_skip rfl (sub_skip rfl (Sub.refl _))))))))))))))
      · skip
        refine run_plain (id := 1) (ops := F49.o1) [(0, true), (1, true), (2, true), (3, true), (4, true), (5, true), (6, true), (7, true), (8, true), (9, true), (10, true), (11, true)] (by kernel_rfl) (by kernel_rfl) ?_
        refine yS (by kernel_rfl : opAt F49.o1 0 = some (some 3, .move (.tmp 0), none)) rfl rfl (fun w' hS => val_move rfl) ?_
        refine yS (by kernel_rfl : opAt F49.o1 1 = some (some 4, .binOp .geq 3 (.tmp 3) (.const (.int .i64 64)) 3, none)) rfl rfl (fun w' hS => val_T (val_geq rfl rfl) hA) ?_
        refine yS (by kernel_rfl : opAt F49.o1 2 = some (some 5, .move (.tmp 4), none)) rfl rfl (fun w' hS => val_move rfl) ?_
        refine yS (by kernel_rfl : opAt F49.o1 3 = some (some 6, .move (.tmp 0), (some (2, true)))) rfl rfl (fun w' hS => val_move rfl) ?_
        refine yS (by kernel_rfl : opAt F49.o1 4 = some (some 7, .binOp .leq 3 (.tmp 6) (.const (.int .i64 512)) 3, (some (2, true)))) rfl rfl (fun w' hS => val_F (val_leq rfl rfl) hB) ?_
        refine yS (by kernel_rfl : opAt F49.o1 5 = some (some 8, .pick (.tmp 5) (.tmp 7) (.const (.bool false)), none)) rfl rfl (fun w' hS => val_pick_t rfl rfl) ?_
        refine yS (by kernel_rfl : opAt F49.o1 6 = some (some 9, .move (.tmp 8), none)) rfl rfl (fun w' hS => val_move rfl) ?_
        refine pS (by kernel_rfl : opAt F49.o1 7 = some (some 10, .move (.tmp 0), (some (6, true)))) rfl rfl ?_
        refine pS (by kernel_rfl : opAt F49.o1 8 = some (some 11, .binOp .rem 3 (.tmp 10) (.const (.int .i64 64)) 3, (some (6, true)))) rfl rfl ?_
        refine pS (by kernel_rfl : opAt F49.o1 9 = some (some 12, .binOp .eql 3 (.tmp 11) (.const (.int .i64 0)) 3, (some (6, true)))) rfl rfl ?_
        refine yS (by kernel_rfl : opAt F49.o1 10 = some (some 13, .pick (.tmp 9) (.tmp 12) (.const (.bool false)), none)) rfl rfl (fun w' hS => val_pick_f rfl rfl) ?_
        refine yS (by kernel_rfl : opAt F49.o1 11 = some (some 2, .assign (.tmp 13), none)) rfl rfl (fun w' hS => val_assign rfl) ?_
        exact Sch.nil (hcut _ _ _ (Stp.refl _ _ _) rfl (by unfold rightB; rw [decide_eq_false hB, Bool.and_false]; rfl) (sub_skip rfl (sub_skip rfl (sub_skip rfl (sub_skip rfl (sub_skip rfl (sub_skip rfl (sub_skip rfl (sub_skip rfl (sub_skip rfl (sub_skip rfl (sub_skip rfl (sub_skip rfl (Sub.refl _))))))))))))))
    · skip
      refine run_plain (id := 1) (ops := F49.o1) [(0, true), (1, true), (2, true), (3, true), (4, true), (5, true), (6, true), (7, true), (8, true), (9, true), (10, true), (11, true)] (by kernel_rfl) (by kernel_rfl) ?_
      refine yS (by kernel_rfl : opAt F49.o1 0 = some (some 3, .move (.tmp 0), none)) rfl rfl (fun w' hS => val_move rfl) ?_
      refine yS (by kernel_rfl : opAt F49.o1 1 = some (some 4, .binOp .geq 3 (.tmp 3) (.const (.int .i64 64)) 3, none)) rfl rfl (fun w' hS => val_F (val_geq rfl rfl) hA) ?_
      refine yS (by kernel_rfl : opAt F49.o1 2 = some (some 5, .move (.tmp 4), none)) rfl rfl (fun w' hS => val_move rfl) ?_
      refine pS (by kernel_rfl : opAt F49.o1 3 = some (some 6, .move (.tmp 0), (some (2, true)))) rfl rfl ?_
      refine pS (by kernel_rfl : opAt F49.o1 4 = some (some 7, .binOp .leq 3 (.tmp 6) (.const (.int .i64 512)) 3, (some (2, true)))) rfl rfl ?_
      refine yS (by kernel_rfl : opAt F49.o1 5 = some (some 8, .pick (.tmp 5) (.tmp 7) (.const (.bool false)), none)) rfl rfl (fun w' hS => val_pick_f rfl rfl) ?_
      refine yS (by kernel_rfl : opAt F49.o1 6 = some (some 9, .move (.tmp 8), none)) rfl rfl (fun w' hS => val_move rfl) ?_
      refine pS (by kernel_rfl : opAt F49.o1 7 = some (some 10, .move (.tmp 0), (some (6, true)))) rfl rfl ?_
      refine pS (by kernel_rfl : opAt F49.o1 8 = some (some 11, .binOp .rem 3 (.tmp 10) (.const (.int .i64 64)) 3, (some (6, true)))) rfl rfl ?_
      refine pS (by kernel_rfl : opAt F49.o1 9 = some (some 12, .binOp .eql 3 (.tmp 11) (.const (.int .i64 0)) 3, (some (6, true)))) rfl rfl ?_
      refine yS (by kernel_rfl : opAt F49.o1 10 = some (some 13, .pick (.tmp 9) (.tmp 12) (.const (.bool false)), none)) rfl rfl (fun w' hS => val_pick_f rfl rfl) ?_
      refine yS (by kernel_rfl : opAt F49.o1 11 = some (some 2, .assign (.tmp 13), none)) rfl rfl (fun w' hS => val_assign rfl) ?_
      exact Sch.nil (hcut _ _ _ (Stp.refl _ _ _) rfl (by unfold rightB; rw [decide_eq_false hA]; rfl) (sub_skip rfl (sub_skip rfl (sub_skip rfl (sub_skip rfl (sub_skip rfl (sub_skip rfl (sub_skip rfl (sub_skip rfl (sub_skip rfl (sub_skip rfl (sub_skip rfl (sub_skip rfl (Sub.refl _))))))))))))))
  intro w1 hs
  replace hF := hF.st hs
  replace hT := hT.trans hs (by simp)
  refine run_ret1 (by kernel_rfl) Try.func49 Try.results49 rfl ?_
  exact ⟨rfl, hT.out1 (by decide)⟩
namespace F29
noncomputable def c0 : Code := bodyOf Try.f29
noncomputable def c1 : Code := cl c0
noncomputable def o0 : Array Oper := rops c1
noncomputable def c2 : Code := cr c0
noncomputable def c3 : Code := cl c2
noncomputable def o1 : Array Oper := rops c3
noncomputable def c4 : Code := cr c2
end F29
theorem valid_ok {w₀ : World} {C : Nat → Nat} {x : Bits} {u : Value} (hF : Lim w₀ C) (hw : RV w₀ (Mc C) x.words u) : Calls Try.prog 29 #[.agg #[.int .i64 x.len, u]] w₀ (Ret fun v w' => v = .bool (validB x) ∧ Stp [] w₀ C w' C) := by
  have hF0 := hF
  have hT := Stp.refl [2, 3, 4, 5, 6, 7, 8, 9] w₀ (col1 C)
  replace hF := hF.col1
  replace hw : RV w₀ (Mc (col1 C)) x.words u := by rw [Mc_col1]; exact hw
  refine calls_start (c := F29.c0) (N := 15) [.agg #[.int .i64 x.len, u]] Try.func29 (by kernel_rfl) (by kernel_rfl) (by kernel_rfl) ?_
  show Run _ _ _ _ [(0, .agg #[.int .i64 x.len, u])] _ _
  refine run_seq (x := F29.c1) (y := F29.c2) (by kernel_rfl) ?_
  refine run_plain (id := 0) (ops := F29.o0) [(0, false), (1, true)] (by kernel_rfl) (by kernel_rfl) ?_
  refine aS (by kernel_rfl : opAt F29.o0 0 = some (some 1, .box 33 (.tmp 0), none)) rfl rfl (a_box (cs := [.int .i64 x.len, u]) hF 3 rfl rfl) ?_
  rintro _ w1 ⟨Cw1, bw1, rfl, hs, hx, hF⟩
  refine ⟨trivial, ?_⟩
  replace hT := hT.trans hs (by simp)
  replace hw := hw.st hs (by first | decide | (simp <;> omega))
  refine yS (by kernel_rfl : opAt F29.o0 1 = some (some 2, .assign (.const (.bool false)), none)) rfl rfl (fun w' hS => val_assign rfl) ?_
  refine Sch.nil ?_
  have hwl := hw.le
  refine kp (sub_cons 1 rfl rfl (sub_nil _)) ?_
  refine run_seq (x := F29.c3) (y := F29.c4) (by kernel_rfl) ?_
  refine run_cut 2 (validB x) (Cw1) ?_ ?_
  · intro hcut
    by_cases hA : rightB x.len = true
    · skip
      have hr := rightB_iff.1 hA
      refine run_plain (id := 1) (ops := F29.o1) [(0, true), (1, false), (2, false), (3, true), (4, true), (5, false), (6, true), (7, true), (8, false), (9, true), (10, true), (11, true), (12, true)] (by kernel_rfl) (by kernel_rfl) ?_
      have hcs := Stp.reflF hF
      refine yS (by kernel_rfl : opAt F29.o1 0 = some (some 3, .fieldAddr 33 (.tmp 1) 0, none)) rfl rfl (fun w' hS => val_fieldAddr (off := 0) (by kernel_rfl) rfl) ?_
      refine nS (by kernel_rfl : opAt F29.o1 1 = some (some 4, .load 3 (.tmp 3), none)) rfl rfl trivial (val_loadOwn hx.at_ (by kernel_rfl) rfl rfl) ?_
      refine cS (by kernel_rfl : opAt F29.o1 2 = some (some 5, .call { callee := .value (.func 49), args := #[(.tmp 4)], argTypes := #[3] }, none)) rfl rfl (ent Try.call49 rfl) (right_ok x.len hF) ?_
      rintro vw2 w2 ⟨rfl, hs⟩
      rw [hA]
      refine ⟨trivial, ?_⟩
      replace hF := hF.st hs
      replace hT := hT.trans hs (by simp)
      replace hw := hw.st hs (by first | decide | (simp <;> omega))
      replace hx := hx.st hs (by first | decide | (simp <;> omega))
      replace hcs := hcs.trans hs (by simp)
      refine yS (by kernel_rfl : opAt F29.o1 3 = some (some 6, .move (.tmp 5), none)) rfl rfl (fun w' hS => val_move rfl) ?_
      refine yS (by kernel_rfl : opAt F29.o1 4 = some (some 7, .fieldAddr 33 (.tmp 1) 1, (some (3, true)))) rfl rfl (fun w' hS => val_fieldAddr (off := 1) (by kernel_rfl) rfl) ?_
      refine nS (by kernel_rfl : opAt F29.o1 5 = some (some 8, .load 31 (.tmp 7), (some (3, true)))) rfl rfl trivial (val_loadOwn hx.at_ (by kernel_rfl) rfl rfl) ?_
      refine yS (by kernel_rfl : opAt F29.o1 6 = some (some 9, .call { callee := .builtin .len, args := #[(.tmp 8)], argTypes := #[31] }, (some (3, true)))) rfl rfl (fun w' hS => hw.lenV rfl Try.underlying31 w' ) ?_
      refine yS (by kernel_rfl : opAt F29.o1 7 = some (some 10, .fieldAddr 33 (.tmp 1) 0, (some (3, true)))) rfl rfl (fun w' hS => val_fieldAddr (off := 0) (by kernel_rfl) rfl) ?_
      refine nS (by kernel_rfl : opAt F29.o1 8 = some (some 11, .load 3 (.tmp 10), (some (3, true)))) rfl rfl trivial (val_loadOwn hx.at_ (by kernel_rfl) rfl rfl) ?_
      refine yS (by kernel_rfl : opAt F29.o1 9 = some (some 12, .binOp .quo 3 (.tmp 11) (.const (.int .i64 64)) 3, (some (3, true)))) rfl rfl (fun w' hS => val_divi rfl rfl (by omega) (by omega) (by omega)) ?_
      refine yS (by kernel_rfl : opAt F29.o1 10 = some (some 13, .binOp .eql 3 (.tmp 9) (.tmp 12) 3, (some (3, true)))) rfl rfl (fun w' hS => val_eql rfl rfl) ?_
      refine yS (by kernel_rfl : opAt F29.o1 11 = some (some 14, .pick (.tmp 6) (.tmp 13) (.const (.bool false)), none)) rfl rfl (fun w' hS => val_pick_t rfl rfl) ?_
      refine yS (by kernel_rfl : opAt F29.o1 12 = some (some 2, .assign (.tmp 14), none)) rfl rfl (fun w' hS => val_assign rfl) ?_
      exact Sch.nil (hcut _ _ _ hcs rfl (by unfold validB; rw [hA]; rfl) (sub_skip rfl (sub_skip rfl (sub_skip rfl (sub_skip rfl (sub_skip rfl (sub_skip rfl (sub_skip rfl (sub_skip rfl (sub_skip rfl (sub_skip rfl (sub_skip rfl (sub_skip rfl (sub_skip rfl (Sub.refl _)))))))))))))))
    · skip
      refine run_plain (id := 1) (ops := F29.o1) [(0, true), (1, false), (2, false), (3, true), (4, true), (5, false), (6, true), (7, true), (8, false), (9, true), (10, true), (11, true), (12, true)] (by kernel_rfl) (by kernel_rfl) ?_
      have hcs := Stp.reflF hF
      refine yS (by kernel_rfl : opAt F29.o1 0 = some (some 3, .fieldAddr 33 (.tmp 1) 0, none)) rfl rfl (fun w' hS => val_fieldAddr (off := 0) (by kernel_rfl) rfl) ?_
      refine nS (by kernel_rfl : opAt F29.o1 1 = some (some 4, .load 3 (.tmp 3), none)) rfl rfl trivial (val_loadOwn hx.at_ (by kernel_rfl) rfl rfl) ?_
      refine cS (by kernel_rfl : opAt F29.o1 2 = some (some 5, .call { callee := .value (.func 49), args := #[(.tmp 4)], argTypes := #[3] }, none)) rfl rfl (ent Try.call49 rfl) (right_ok x.len hF) ?_
      rintro vw3 w3 ⟨rfl, hs⟩
      rw [Bool.eq_false_iff.2 hA]
      refine ⟨trivial, ?_⟩
      replace hF := hF.st hs
      replace hT := hT.trans hs (by simp)
      replace hw := hw.st hs (by first | decide | (simp <;> omega))
      replace hx := hx.st hs (by first | decide | (simp <;> omega))
      replace hcs := hcs.trans hs (by simp)
      refine yS (by kernel_rfl : opAt F29.o1 3 = some (some 6, .move (.tmp 5), none)) rfl rfl (fun w' hS => val_move rfl) ?_
      refine pS (by kernel_rfl : opAt F29.o1 4 = some (some 7, .fieldAddr 33 (.tmp 1) 1, (some (3, true)))) rfl rfl ?_
      refine pW (by kernel_rfl : opAt F29.o1 5 = some (some 8, .load 31 (.tmp 7), (some (3, true)))) rfl rfl trivial ?_
      refine pS (by kernel_rfl : opAt F29.o1 6 = some (some 9, .call { callee := .builtin .len, args := #[(.tmp 8)], argTypes := #[31] }, (some (3, true)))) rfl rfl ?_
      refine pS (by kernel_rfl : opAt F29.o1 7 = some (some 10, .fieldAddr 33 (.tmp 1) 0, (some (3, true)))) rfl rfl ?_
      refine pW (by kernel_rfl : opAt F29.o1 8 = some (some 11, .load 3 (.tmp 10), (some (3, true)))) rfl rfl trivial ?_
      refine pS (by kernel_rfl : opAt F29.o1 9 = some (some 12, .binOp .quo 3 (.tmp 11) (.const (.int .i64 64)) 3, (some (3, true)))) rfl rfl ?_
      refine pS (by kernel_rfl : opAt F29.o1 10 = some (some 13, .binOp .eql 3 (.tmp 9) (.tmp 12) 3, (some (3, true)))) rfl rfl ?_
      refine yS (by kernel_rfl : opAt F29.o1 11 = some (some 14, .pick (.tmp 6) (.tmp 13) (.const (.bool false)), none)) rfl rfl (fun w' hS => val_pick_f rfl rfl) ?_
      refine yS (by kernel_rfl : opAt F29.o1 12 = some (some 2, .assign (.tmp 14), none)) rfl rfl (fun w' hS => val_assign rfl) ?_
      exact Sch.nil (hcut _ _ _ hcs rfl (by unfold validB; rw [Bool.eq_false_iff.2 hA]; rfl) (sub_skip rfl (sub_skip rfl (sub_skip rfl (sub_skip rfl (sub_skip rfl (sub_skip rfl (sub_skip rfl (sub_skip rfl (sub_skip rfl (sub_skip rfl (sub_skip rfl (sub_skip rfl (sub_skip rfl (Sub.refl _)))))))))))))))
  intro w4 hs
  replace hF := hF.st hs
  replace hT := hT.trans hs (by simp)
  replace hw := hw.st hs (by first | decide | (simp <;> omega))
  replace hx := hx.st hs (by first | decide | (simp <;> omega))
  refine run_ret1 (by kernel_rfl) Try.func29 Try.results29 rfl ?_
  exact ⟨rfl, hT.out1 (by decide)⟩
namespace F37
noncomputable def c0 : Code := bodyOf Try.f37
noncomputable def c1 : Code := cl c0
noncomputable def o0 : Array Oper := rops c1
noncomputable def c2 : Code := cr c0
noncomputable def c3 : Code := cl c2
noncomputable def o1 : Array Oper := rops c3
noncomputable def c4 : Code := cr c2
end F37
theorem refLength_ok {w₀ : World} {C : Nat → Nat} (x : Int) (hF : Lim w₀ C) : Calls Try.prog 37 #[.int .i64 x] w₀ (Ret fun v w' => v = .bool (rightB x) ∧ Stp [] w₀ C w' C) := by
  have hF0 := hF
  have hT := Stp.refl [2, 3, 4, 5, 6, 7, 8, 9] w₀ (col1 C)
  replace hF := hF.col1
  refine calls_start (c := F37.c0) (N := 14) [.int .i64 x] Try.func37 (by kernel_rfl) (by kernel_rfl) (by kernel_rfl) ?_
  show Run _ _ _ _ [(0, .int .i64 x)] _ _
  refine run_seq (x := F37.c1) (y := F37.c2) (by kernel_rfl) ?_
  refine run_plain (id := 0) (ops := F37.o0) [(0, true)] (by kernel_rfl) (by kernel_rfl) ?_
  refine yS (by kernel_rfl : opAt F37.o0 0 = some (some 2, .assign (.const (.bool false)), none)) rfl rfl (fun w' hS => val_assign rfl) ?_
  refine Sch.nil ?_
  refine kp (sub_cons 0 rfl rfl (sub_nil _)) ?_
  refine run_seq (x := F37.c3) (y := F37.c4) (by kernel_rfl) ?_
  refine run_cut 2 (rightB x) (col1 C) ?_ ?_
  · intro hcut
    by_cases hA : 64 ≤ x
    · skip
      by_cases hB : x ≤ 512
      · skip
        refine run_plain (id := 1) (ops := F37.o1) [(0, true), (1, true), (2, true), (3, true), (4, true), (5, true), (6, true), (7, true), (8, true), (9, true), (10, true), (11, true)] (by kernel_rfl) (by kernel_rfl) ?_
        refine yS (by kernel_rfl : opAt F37.o1 0 = some (some 3, .move (.tmp 0), none)) rfl rfl (fun w' hS => val_move rfl) ?_
        refine yS (by kernel_rfl : opAt F37.o1 1 = some (some 4, .binOp .geq 3 (.tmp 3) (.const (.int .i64 64)) 3, none)) rfl rfl (fun w' hS => val_T (val_geq rfl rfl) hA) ?_
        refine yS (by kernel_rfl : opAt F37.o1 2 = some (some 5, .move (.tmp 4), none)) rfl rfl (fun w' hS => val_move rfl) ?_
        refine yS (by kernel_rfl : opAt F37.o1 3 = some (some 6, .move (.tmp 0), (some (2, true)))) rfl rfl (fun w' hS => val_move rfl) ?_
        refine yS (by kernel_rfl : opAt F37.o1 4 = some (some 7, .binOp .leq 3 (.tmp 6) (.const (.int .i64 512)) 3, (some (2, true)))) rfl rfl (fun w' hS => val_T (val_leq rfl rfl) hB) ?_
        refine yS (by kernel_rfl : opAt F37.o1 5 = some (some 8, .pick (.tmp 5) (.tmp 7) (.const (.bool false)), none)) rfl rfl (fun w' hS => val_pick_t rfl rfl) ?_
        refine yS (by kernel_rfl : opAt F37.o1 6 = some (some 9, .move (.tmp 8), none)) rfl rfl (fun w' hS => val_move rfl) ?_
        refine yS (by kernel_rfl : opAt F37.o1 7 = some (some 10, .move (.tmp 0), (some (6, true)))) rfl rfl (fun w' hS => val_move rfl) ?_
        refine yS (by kernel_rfl : opAt F37.o1 8 = some (some 11, .binOp .rem 3 (.tmp 10) (.const (.int .i64 64)) 3, (some (6, true)))) rfl rfl (fun w' hS => val_modi rfl rfl (by omega) (by omega)) ?_
        refine yS (by kernel_rfl : opAt F37.o1 9 = some (some 12, .binOp .eql 3 (.tmp 11) (.const (.int .i64 0)) 3, (some (6, true)))) rfl rfl (fun w' hS => val_eql rfl rfl) ?_
        refine yS (by kernel_rfl : opAt F37.o1 10 = some (some 13, .pick (.tmp 9) (.tmp 12) (.const (.bool false)), none)) rfl rfl (fun w' hS => val_pick_t rfl rfl) ?_
        refine yS (by kernel_rfl : opAt F37.o1 11 = some (some 2, .assign (.tmp 13), none)) rfl rfl (fun w' hS => val_assign rfl) ?_
        exact Sch.nil (hcut _ _ _ (Stp.refl _ _ _) rfl (by unfold rightB; rw [decide_eq_true hA, decide_eq_true hB]; rfl) (sub_skip rfl (sub_skip rfl (sub_skip rfl (sub_skip rfl (sub_skip rfl (sub_skip rfl (sub_skip rfl (sub_skip rfl (sub_skip rfl (sub_skip rfl (sub_skip rfl (sub_skip rfl (Sub.refl _))))))))))))))
      · skip
        refine run_plain (id := 1) (ops := F37.o1) [(0, true), (1, true), (2, true), (3, true), (4, true), (5, true), (6, true), (7, true), (8, true), (9, true), (10, true), (11, true)] (by kernel_rfl) (by kernel_rfl) ?_
        refine yS (by kernel_rfl : opAt F37.o1 0 = some (some 3, .move (.tmp 0), none)) rfl rfl (fun w' hS => val_move rfl) ?_
        refine yS (by kernel_rfl : opAt F37.o1 1 = some (some 4, .binOp .geq 3 (.tmp 3) (.const (.int .i64 64)) 3, none)) rfl rfl (fun w' hS => val_T (val_geq rfl rfl) hA) ?_
        refine yS (by kernel_rfl : opAt F37.o1 2 = some (some 5, .move (.tmp 4), none)) rfl rfl (fun w' hS => val_move rfl) ?_
        refine yS (by kernel_rfl : opAt F37.o1 3 = some (some 6, .move (.tmp 0), (some (2, true)))) rfl rfl (fun w' hS => val_move rfl) ?_
        refine yS (by kernel_rfl : opAt F37.o1 4 = some (some 7, .binOp .leq 3 (.tmp 6) (.const (.int .i64 512)) 3, (some (2, true)))) rfl rfl (fun w' hS => val_F (val_leq rfl rfl) hB) ?_
        refine yS (by kernel_rfl : opAt F37.o1 5 = some (some 8, .pick (.tmp 5) (.tmp 7) (.const (.bool false)), none)) rfl rfl (fun w' hS => val_pick_t rfl rfl) ?_
        refine yS (by kernel_rfl : opAt F37.o1 6 = some (some 9, .move (.tmp 8), none)) rfl rfl (fun w' hS => val_move rfl) ?_
        refine pS (by kernel_rfl : opAt F37.o1 7 = some (some 10, .move (.tmp 0), (some (6, true)))) rfl rfl ?_
        refine pS (by kernel_rfl : opAt F37.o1 8 = some (some 11, .binOp .rem 3 (.tmp 10) (.const (.int .i64 64)) 3, (some (6, true)))) rfl rfl ?_
        refine pS (by kernel_rfl : opAt F37.o1 9 = some (some 12, .binOp .eql 3 (.tmp 11) (.const (.int .i64 0)) 3, (some (6, true)))) rfl rfl ?_
        refine yS (by kernel_rfl : opAt F37.o1 10 = some (some 13, .pick (.tmp 9) (.tmp 12) (.const (.bool false)), none)) rfl rfl (fun w' hS => val_pick_f rfl rfl) ?_
        refine yS (by kernel_rfl : opAt F37.o1 11 = some (some 2, .assign (.tmp 13), none)) rfl rfl (fun w' hS => val_assign rfl) ?_
        exact Sch.nil (hcut _ _ _ (Stp.refl _ _ _) rfl (by unfold rightB; rw [decide_eq_false hB, Bool.and_false]; rfl) (sub_skip rfl (sub_skip rfl (sub_skip rfl (sub_skip rfl (sub_skip rfl (sub_skip rfl (sub_skip rfl (sub_skip rfl (sub_skip rfl (sub_skip rfl (sub_skip rfl (sub_skip rfl (Sub.refl _))))))))))))))
    · skip
      refine run_plain (id := 1) (ops := F37.o1) [(0, true), (1, true), (2, true), (3, true), (4, true), (5, true), (6, true), (7, true), (8, true), (9, true), (10, true), (11, true)] (by kernel_rfl) (by kernel_rfl) ?_
      refine yS (by kernel_rfl : opAt F37.o1 0 = some (some 3, .move (.tmp 0), none)) rfl rfl (fun w' hS => val_move rfl) ?_
      refine yS (by kernel_rfl : opAt F37.o1 1 = some (some 4, .binOp .geq 3 (.tmp 3) (.const (.int .i64 64)) 3, none)) rfl rfl (fun w' hS => val_F (val_geq rfl rfl) hA) ?_
      refine yS (by kernel_rfl : opAt F37.o1 2 = some (some 5, .move (.tmp 4), none)) rfl rfl (fun w' hS => val_move rfl) ?_
      refine pS (by kernel_rfl : opAt F37.o1 3 = some (some 6, .move (.tmp 0), (some (2, true)))) rfl rfl ?_
      refine pS (by kernel_rfl : opAt F37.o1 4 = some (some 7, .binOp .leq 3 (.tmp 6) (.const (.int .i64 512)) 3, (some (2, true)))) rfl rfl ?_
      refine yS (by kernel_rfl : opAt F37.o1 5 = some (some 8, .pick (.tmp 5) (.tmp 7) (.const (.bool false)), none)) rfl rfl (fun w' hS => val_pick_f rfl rfl) ?_
      refine yS (by kernel_rfl : opAt F37.o1 6 = some (some 9, .move (.tmp 8), none)) rfl rfl (fun w' hS => val_move rfl) ?_
      refine pS (by kernel_rfl : opAt F37.o1 7 = some (some 10, .move (.tmp 0), (some (6, true)))) rfl rfl ?_
      refine pS (by kernel_rfl : opAt F37.o1 8 = some (some 11, .binOp .rem 3 (.tmp 10) (.const (.int .i64 64)) 3, (some (6, true)))) rfl rfl ?_
      refine pS (by kernel_rfl : opAt F37.o1 9 = some (some 12, .binOp .eql 3 (.tmp 11) (.const (.int .i64 0)) 3, (some (6, true)))) rfl rfl ?_
      refine yS (by kernel_rfl : opAt F37.o1 10 = some (some 13, .pick (.tmp 9) (.tmp 12) (.const (.bool false)), none)) rfl rfl (fun w' hS => val_pick_f rfl rfl) ?_
      refine yS (by kernel_rfl : opAt F37.o1 11 = some (some 2, .assign (.tmp 13), none)) rfl rfl (fun w' hS => val_assign rfl) ?_
      exact Sch.nil (hcut _ _ _ (Stp.refl _ _ _) rfl (by unfold rightB; rw [decide_eq_false hA]; rfl) (sub_skip rfl (sub_skip rfl (sub_skip rfl (sub_skip rfl (sub_skip rfl (sub_skip rfl (sub_skip rfl (sub_skip rfl (sub_skip rfl (sub_skip rfl (sub_skip rfl (sub_skip rfl (Sub.refl _))))))))))))))
  intro w1 hs
  replace hF := hF.st hs
  replace hT := hT.trans hs (by simp)
  refine run_ret1 (by kernel_rfl) Try.func37 Try.results37 rfl ?_
  exact ⟨rfl, hT.out1 (by decide)⟩
namespace F13
noncomputable def c0 : Code := bodyOf Try.f13
noncomputable def c1 : Code := cl c0
noncomputable def o0 : Array Oper := rops c1
noncomputable def c2 : Code := cr c0
noncomputable def c3 : Code := cl c2
noncomputable def o1 : Array Oper := rops c3
noncomputable def c4 : Code := cr c2
end F13
theorem refValid_ok {w₀ : World} {C : Nat → Nat} {x : Bits} {u : Value} (hF : Lim w₀ C) (hw : RV w₀ (Mc C) x.words u) : Calls Try.prog 13 #[.agg #[.int .i64 x.len, u]] w₀ (Ret fun v w' => v = .bool (validB x) ∧ Stp [] w₀ C w' C) := by
  have hF0 := hF
  have hT := Stp.refl [2, 3, 4, 5, 6, 7, 8, 9] w₀ (col1 C)
  replace hF := hF.col1
  replace hw : RV w₀ (Mc (col1 C)) x.words u := by rw [Mc_col1]; exact hw
  refine calls_start (c := F13.c0) (N := 15) [.agg #[.int .i64 x.len, u]] Try.func13 (by kernel_rfl) (by kernel_rfl) (by kernel_rfl) ?_
  show Run _ _ _ _ [(0, .agg #[.int .i64 x.len, u])] _ _
  refine run_seq (x := F13.c1) (y := F13.c2) (by kernel_rfl) ?_
  refine run_plain (id := 0) (ops := F13.o0) [(0, false), (1, true)] (by kernel_rfl) (by kernel_rfl) ?_
  refine aS (by kernel_rfl : opAt F13.o0 0 = some (some 1, .box 33 (.tmp 0), none)) rfl rfl (a_box (cs := [.int .i64 x.len, u]) hF 3 rfl rfl) ?_
  rintro _ w1 ⟨Cw1, bw1, rfl, hs, hx, hF⟩
  refine ⟨trivial, ?_⟩
  replace hT := hT.trans hs (by simp)
  replace hw := hw.st hs (by first | decide | (simp <;> omega))
  refine yS (by kernel_rfl : opAt F13.o0 1 = some (some 2, .assign (.const (.bool false)), none)) rfl rfl (fun w' hS => val_assign rfl) ?_
  refine Sch.nil ?_
  have hwl := hw.le
  refine kp (sub_cons 1 rfl rfl (sub_nil _)) ?_
  refine run_seq (x := F13.c3) (y := F13.c4) (by kernel_rfl) ?_
  refine run_cut 2 (validB x) (Cw1) ?_ ?_
  · intro hcut
    by_cases hA : rightB x.len = true
    · skip
      have hr := rightB_iff.1 hA
      refine run_plain (id := 1) (ops := F13.o1) [(0, true), (1, false), (2, false), (3, true), (4, true), (5, false), (6, true), (7, true), (8, false), (9, true), (10, true), (11, true), (12, true)] (by kernel_rfl) (by kernel_rfl) ?_
      have hcs := Stp.reflF hF
      refine yS (by kernel_rfl : opAt F13.o1 0 = some (some 3, .fieldAddr 33 (.tmp 1) 0, none)) rfl rfl (fun w' hS => val_fieldAddr (off := 0) (by kernel_rfl) rfl) ?_
      refine nS (by kernel_rfl : opAt F13.o1 1 = some (some 4, .load 3 (.tmp 3), none)) rfl rfl trivial (val_loadOwn hx.at_ (by kernel_rfl) rfl rfl) ?_
      refine cS (by kernel_rfl : opAt F13.o1 2 = some (some 5, .call { callee := .value (.func 37), args := #[(.tmp 4)], argTypes := #[3] }, none)) rfl rfl (ent Try.call37 rfl) (refLength_ok x.len hF) ?_
      rintro vw2 w2 ⟨rfl, hs⟩
      rw [hA]
      refine ⟨trivial, ?_⟩
      replace hF := hF.st hs
      replace hT := hT.trans hs (by simp)
      replace hw := hw.st hs (by first | decide | (simp <;> omega))
      replace hx := hx.st hs (by first | decide | (simp <;> omega))
      replace hcs := hcs.trans hs (by simp)
      refine yS (by kernel_rfl : opAt F13.o1 3 = some (some 6, .move (.tmp 5), none)) rfl rfl (fun w' hS => val_move rfl) ?_
      refine yS (by kernel_rfl : opAt F13.o1 4 = some (some 7, .fieldAddr 33 (.tmp 1) 1, (some (3, true)))) rfl rfl (fun w' hS => val_fieldAddr (off := 1) (by kernel_rfl) rfl) ?_
      refine nS (by kernel_rfl : opAt F13.o1 5 = some (some 8, .load 31 (.tmp 7), (some (3, true)))) rfl rfl trivial (val_loadOwn hx.at_ (by kernel_rfl) rfl rfl) ?_
      refine yS (by kernel_rfl : opAt F13.o1 6 = some (some 9, .call { callee := .builtin .len, args := #[(.tmp 8)], argTypes := #[31] }, (some (3, true)))) rfl rfl (fun w' hS => hw.lenV rfl Try.underlying31 w' ) ?_
      refine yS (by kernel_rfl : opAt F13.o1 7 = some (some 10, .fieldAddr 33 (.tmp 1) 0, (some (3, true)))) rfl rfl (fun w' hS => val_fieldAddr (off := 0) (by kernel_rfl) rfl) ?_
      refine nS (by kernel_rfl : opAt F13.o1 8 = some (some 11, .load 3 (.tmp 10), (some (3, true)))) rfl rfl trivial (val_loadOwn hx.at_ (by kernel_rfl) rfl rfl) ?_
      refine yS (by kernel_rfl : opAt F13.o1 9 = some (some 12, .binOp .quo 3 (.tmp 11) (.const (.int .i64 64)) 3, (some (3, true)))) rfl rfl (fun w' hS => val_divi rfl rfl (by omega) (by omega) (by omega)) ?_
      refine yS (by kernel_rfl : opAt F13.o1 10 = some (some 13, .binOp .eql 3 (.tmp 9) (.tmp 12) 3, (some (3, true)))) rfl rfl (fun w' hS => val_eql rfl rfl) ?_
      refine yS (by kernel_rfl : opAt F13.o1 11 = some (some 14, .pick (.tmp 6) (.tmp 13) (.const (.bool false)), none)) rfl rfl (fun w' hS => val_pick_t rfl rfl) ?_
      refine yS (by kernel_rfl : opAt F13.o1 12 = some (some 2, .assign (.tmp 14), none)) rfl rfl (fun w' hS => val_assign rfl) ?_
      exact Sch.nil (hcut _ _ _ hcs rfl (by unfold validB; rw [hA]; rfl) (sub_skip rfl (sub_skip rfl (sub_skip rfl (sub_skip rfl (sub_skip rfl (sub_skip rfl (sub_skip rfl (sub_skip rfl (sub_skip rfl (sub_skip rfl (sub_skip rfl (sub_skip rfl (sub_skip rfl (Sub.refl _)))))))))))))))
    · skip
      refine run_plain (id := 1) (ops := F13.o1) [(0, true), (1, false), (2, false), (3, true), (4, true), (5, false), (6, true), (7, true), (8, false), (9, true), (10, true), (11, true), (12, true)] (by kernel_rfl) (by kernel_rfl) ?_
      have hcs := Stp.reflF hF
      refine yS (by kernel_rfl : opAt F13.o1 0 = some (some 3, .fieldAddr 33 (.tmp 1) 0, none)) rfl rfl (fun w' hS => val_fieldAddr (off := 0) (by kernel_rfl) rfl) ?_
      refine nS (by kernel_rfl : opAt F13.o1 1 = some (some 4, .load 3 (.tmp 3), none)) rfl rfl trivial (val_loadOwn hx.at_ (by kernel_rfl) rfl rfl) ?_
      refine cS (by kernel_rfl : opAt F13.o1 2 = some (some 5, .call { callee := .value (.func 37), args := #[(.tmp 4)], argTypes := #[3] }, none)) rfl rfl (ent Try.call37 rfl) (refLength_ok x.len hF) ?_
      rintro vw3 w3 ⟨rfl, hs⟩
      rw [Bool.eq_false_iff.2 hA]
      refine ⟨trivial, ?_⟩
      replace hF := hF.st hs
      replace hT := hT.trans hs (by simp)
      replace hw := hw.st hs (by first | decide | (simp <;> omega))
      replace hx := hx.st hs (by first | decide | (simp <;> omega))
      replace hcs := hcs.trans hs (by simp)
      refine yS (by kernel_rfl : opAt F13.o1 3 = some (some 6, .move (.tmp 5), none)) rfl rfl (fun w' hS => val_move rfl) ?_
      refine pS (by kernel_rfl : opAt F13.o1 4 = some (some 7, .fieldAddr 33 (.tmp 1) 1, (some (3, true)))) rfl rfl ?_
      refine pW (by kernel_rfl : opAt F13.o1 5 = some (some 8, .load 31 (.tmp 7), (some (3, true)))) rfl rfl trivial ?_
      refine pS (by kernel_rfl : opAt F13.o1 6 = some (some 9, .call { callee := .builtin .len, args := #[(.tmp 8)], argTypes := #[31] }, (some (3, true)))) rfl rfl ?_
      refine pS (by kernel_rfl : opAt F13.o1 7 = some (some 10, .fieldAddr 33 (.tmp 1) 0, (some (3, true)))) rfl rfl ?_
      refine pW (by kernel_rfl : opAt F13.o1 8 = some (some 11, .load 3 (.tmp 10), (some (3, true)))) rfl rfl trivial ?_
      refine pS (by kernel_rfl : opAt F13.o1 9 = some (some 12, .binOp .quo 3 (.tmp 11) (.const (.int .i64 64)) 3, (some (3, true)))) rfl rfl ?_
      refine pS (by kernel_rfl : opAt F13.o1 10 = some (some 13, .binOp .eql 3 (.tmp 9) (.tmp 12) 3, (some (3, true)))) rfl rfl ?_
      refine yS (by kernel_rfl : opAt F13.o1 11 = some (some 14, .pick (.tmp 6) (.tmp 13) (.const (.bool false)), none)) rfl rfl (fun w' hS => val_pick_f rfl rfl) ?_
      refine yS (by kernel_rfl : opAt F13.o1 12 = some (some 2, .assign (.tmp 14), none)) rfl rfl (fun w' hS => val_assign rfl) ?_
      exact Sch.nil (hcut _ _ _ hcs rfl (by unfold validB; rw [Bool.eq_false_iff.2 hA]; rfl) (sub_skip rfl (sub_skip rfl (sub_skip rfl (sub_skip rfl (sub_skip rfl (sub_skip rfl (sub_skip rfl (sub_skip rfl (sub_skip rfl (sub_skip rfl (sub_skip rfl (sub_skip rfl (sub_skip rfl (Sub.refl _)))))))))))))))
  intro w4 hs
  replace hF := hF.st hs
  replace hT := hT.trans hs (by simp)
  replace hw := hw.st hs (by first | decide | (simp <;> omega))
  replace hx := hx.st hs (by first | decide | (simp <;> omega))
  refine run_ret1 (by kernel_rfl) Try.func13 Try.results13 rfl ?_
  exact ⟨rfl, hT.out1 (by decide)⟩
namespace F74
noncomputable def c0 : Code := bodyOf Try.f74
noncomputable def c1 : Code := cl c0
noncomputable def o0 : Array Oper := rops c1
noncomputable def c2 : Code := cr c0
noncomputable def c3 : Code := cl c2
noncomputable def o1 : Array Oper := rops c3
noncomputable def c4 : Code := cr c2
end F74
theorem isNaNU_ok (x : Int) (w : World) : Calls Try.prog 74 #[.int .u64 x] w (Ret fun v w' => v = .bool false ∧ w' = w) := by
  refine calls_start (c := F74.c0) (N := 6) [.int .u64 x] Try.func74 (by kernel_rfl) (by kernel_rfl) (by kernel_rfl) ?_
  show Run _ _ _ _ [(0, .int .u64 x)] _ _
  refine run_seq (x := F74.c1) (y := F74.c2) (by kernel_rfl) ?_
  refine run_plain (id := 0) (ops := F74.o0) [(0, true)] (by kernel_rfl) (by kernel_rfl) ?_
  refine yS (by kernel_rfl : opAt F74.o0 0 = some (some 2, .assign (.const (.bool false)), none)) rfl rfl (fun w' hS => val_assign rfl) ?_
  refine Sch.nil ?_
  refine run_seq (x := F74.c3) (y := F74.c4) (by kernel_rfl) ?_
  refine run_plain (id := 1) (ops := F74.o1) [(0, true), (1, true), (2, true), (3, true)] (by kernel_rfl) (by kernel_rfl) ?_
  refine yS (by kernel_rfl : opAt F74.o1 0 = some (some 3, .move (.tmp 0), none)) rfl rfl (fun w' hS => val_move rfl) ?_
  refine yS (by kernel_rfl : opAt F74.o1 1 = some (some 4, .move (.tmp 0), none)) rfl rfl (fun w' hS => val_move rfl) ?_
  refine yS (by kernel_rfl : opAt F74.o1 2 = some (some 5, .binOp .neq 59 (.tmp 3) (.tmp 4) 59, none)) rfl rfl (fun w' hS => val_neq rfl rfl) ?_
  refine yS (by kernel_rfl : opAt F74.o1 3 = some (some 2, .assign (.tmp 5), none)) rfl rfl (fun w' hS => val_assign rfl) ?_
  refine Sch.nil ?_
  refine run_ret1 (by kernel_rfl) Try.func74 Try.results74 rfl ?_
  exact ⟨by simp, rfl⟩
namespace F62
noncomputable def c0 : Code := bodyOf Try.f62
noncomputable def c1 : Code := cl c0
noncomputable def o0 : Array Oper := rops c1
noncomputable def c2 : Code := cr c0
noncomputable def c3 : Code := cl c2
noncomputable def o1 : Array Oper := rops c3
noncomputable def c4 : Code := cr c2
noncomputable def c5 : Code := cl c4
noncomputable def o2 : Array Oper := rops c5
noncomputable def c6 : Code := cr c4
noncomputable def c7 : Code := cl c6
noncomputable def c8 : Code := cl c7
noncomputable def o3 : Array Oper := rops c8
noncomputable def c9 : Code := cr c7
noncomputable def c10 : Code := cl c9
noncomputable def c11 : Code := cl c10
noncomputable def c12 : Code := cl c11
noncomputable def o4 : Array Oper := rops c12
noncomputable def c13 : Code := cr c11
noncomputable def c14 : Code := cl c13
noncomputable def c15 : Code := cl c14
noncomputable def o5 : Array Oper := rops c15
noncomputable def c16 : Code := cr c14
noncomputable def c17 : Code := cr c13
noncomputable def c18 : Code := cr c10
noncomputable def c19 : Code := cl c18
noncomputable def o6 : Array Oper := rops c19
noncomputable def c20 : Code := cr c18
noncomputable def c21 : Code := cr c9
noncomputable def c22 : Code := cr c6
noncomputable def c23 : Code := cl c22
noncomputable def c24 : Code := cl c23
noncomputable def o7 : Array Oper := rops c24
noncomputable def c25 : Code := cr c23
noncomputable def c26 : Code := cl c25
noncomputable def c27 : Code := cl c26
noncomputable def o8 : Array Oper := rops c27
noncomputable def c28 : Code := cr c26
noncomputable def c29 : Code := cr c25
noncomputable def c30 : Code := cr c22
noncomputable def c31 : Code := cl c30
noncomputable def c32 : Code := cl c31
noncomputable def o9 : Array Oper := rops c32
noncomputable def c33 : Code := cr c31
noncomputable def c34 : Code := cl c33
noncomputable def c35 : Code := cl c34
noncomputable def o10 : Array Oper := rops c35
noncomputable def c36 : Code := cr c34
noncomputable def c37 : Code := cr c33
noncomputable def c38 : Code := cr c30
noncomputable def c39 : Code := cl c38
noncomputable def c40 : Code := cl c39
noncomputable def o11 : Array Oper := rops c40
noncomputable def c41 : Code := cr c39
noncomputable def c42 : Code := cl c41
noncomputable def c43 : Code := cl c42
noncomputable def o12 : Array Oper := rops c43
noncomputable def c44 : Code := cr c42
noncomputable def c45 : Code := cr c41
noncomputable def c46 : Code := cr c38
noncomputable def c47 : Code := cl c46
noncomputable def o13 : Array Oper := rops c47
noncomputable def c48 : Code := cr c46
end F62
theorem cmpU_ok (x y : Int) (w : World) : Calls Try.prog 62 #[.int .u64 x, .int .u64 y] w (Ret fun v w' => v = .int .i64 (cmpI x y) ∧ w' = w) := by
  refine calls_start (c := F62.c0) (N := 20) [.int .u64 x, .int .u64 y] Try.func62 (by kernel_rfl) (by kernel_rfl) (by kernel_rfl) ?_
  show Run _ _ _ _ [(0, .int .u64 x), (1, .int .u64 y)] _ _
  refine run_seq (x := F62.c1) (y := F62.c2) (by kernel_rfl) ?_
  refine run_plain (id := 0) (ops := F62.o0) [(0, true)] (by kernel_rfl) (by kernel_rfl) ?_
  refine yS (by kernel_rfl : opAt F62.o0 0 = some (some 4, .assign (.const (.int .i64 0)), none)) rfl rfl (fun w' hS => val_assign rfl) ?_
  refine Sch.nil ?_
  refine run_seq (x := F62.c3) (y := F62.c4) (by kernel_rfl) ?_
  refine run_plain (id := 1) (ops := F62.o1) [(0, true), (1, false), (2, true)] (by kernel_rfl) (by kernel_rfl) ?_
  refine yS (by kernel_rfl : opAt F62.o1 0 = some (some 7, .move (.tmp 0), none)) rfl rfl (fun w' hS => val_move rfl) ?_
  refine cS (by kernel_rfl : opAt F62.o1 1 = some (some 8, .call { callee := .value (.func 74), args := #[(.tmp 7)], argTypes := #[59] }, none)) rfl rfl (ent Try.call74 rfl) (isNaNU_ok _ _) ?_
  rintro vw1 w1 ⟨rfl, rfl⟩
  refine ⟨trivial, ?_⟩
  refine yS (by kernel_rfl : opAt F62.o1 2 = some (some 5, .assign (.tmp 8), none)) rfl rfl (fun w' hS => val_assign rfl) ?_
  refine Sch.nil ?_
  refine run_seq (x := F62.c5) (y := F62.c6) (by kernel_rfl) ?_
  refine run_plain (id := 2) (ops := F62.o2) [(0, true), (1, false), (2, true)] (by kernel_rfl) (by kernel_rfl) ?_
  refine yS (by kernel_rfl : opAt F62.o2 0 = some (some 9, .move (.tmp 1), none)) rfl rfl (fun w' hS => val_move rfl) ?_
  refine cS (by kernel_rfl : opAt F62.o2 1 = some (some 10, .call { callee := .value (.func 74), args := #[(.tmp 9)], argTypes := #[59] }, none)) rfl rfl (ent Try.call74 rfl) (isNaNU_ok _ _) ?_
  rintro vw2 w2 ⟨rfl, rfl⟩
  refine ⟨trivial, ?_⟩
  refine yS (by kernel_rfl : opAt F62.o2 2 = some (some 6, .assign (.tmp 10), none)) rfl rfl (fun w' hS => val_assign rfl) ?_
  refine Sch.nil ?_
  refine run_seq (x := F62.c7) (y := F62.c22) (by kernel_rfl) ?_
  refine run_seq (x := F62.c8) (y := F62.c9) (by kernel_rfl) ?_
  refine run_plain (id := 3) (ops := F62.o3) [(0, true)] (by kernel_rfl) (by kernel_rfl) ?_
  refine yS (by kernel_rfl : opAt F62.o3 0 = some (some 11, .move (.tmp 5), none)) rfl rfl (fun w' hS => val_move rfl) ?_
  refine Sch.nil ?_
  refine run_cond (x := F62.c10) (y := F62.c21) (o := .tmp 11) (b := false) (by kernel_rfl) rfl (fun h => by cases h) (fun _ => ?_)
  refine run_skip (by kernel_rfl) ?_
  refine run_seq (x := F62.c23) (y := F62.c30) (by kernel_rfl) ?_
  refine run_seq (x := F62.c24) (y := F62.c25) (by kernel_rfl) ?_
  refine run_plain (id := 7) (ops := F62.o7) [(0, true)] (by kernel_rfl) (by kernel_rfl) ?_
  refine yS (by kernel_rfl : opAt F62.o7 0 = some (some 13, .move (.tmp 6), none)) rfl rfl (fun w' hS => val_move rfl) ?_
  refine Sch.nil ?_
  refine run_cond (x := F62.c26) (y := F62.c29) (o := .tmp 13) (b := false) (by kernel_rfl) rfl (fun h => by cases h) (fun _ => ?_)
  refine run_skip (by kernel_rfl) ?_
  refine run_seq (x := F62.c31) (y := F62.c38) (by kernel_rfl) ?_
  refine run_seq (x := F62.c32) (y := F62.c33) (by kernel_rfl) ?_
  refine run_plain (id := 9) (ops := F62.o9) [(0, true), (1, true), (2, true)] (by kernel_rfl) (by kernel_rfl) ?_
  refine yS (by kernel_rfl : opAt F62.o9 0 = some (some 14, .move (.tmp 0), none)) rfl rfl (fun w' hS => val_move rfl) ?_
  refine yS (by kernel_rfl : opAt F62.o9 1 = some (some 15, .move (.tmp 1), none)) rfl rfl (fun w' hS => val_move rfl) ?_
  refine yS (by kernel_rfl : opAt F62.o9 2 = some (some 16, .binOp .lss 59 (.tmp 14) (.tmp 15) 59, none)) rfl rfl (fun w' hS => val_lss rfl rfl) ?_
  refine Sch.nil ?_
  refine run_if (x := F62.c34) (y := F62.c37) (o := .tmp 16) (by kernel_rfl) rfl (fun h16 => ?_) (fun h16 => ?_)
  · skip
    refine run_seq (x := F62.c35) (y := F62.c36) (by kernel_rfl) ?_
    refine run_plain (id := 10) (ops := F62.o10) [(0, true)] (by kernel_rfl) (by kernel_rfl) ?_
    refine yS (by kernel_rfl : opAt F62.o10 0 = some (some 4, .assign (.const (.int .i64 (-1))), none)) rfl rfl (fun w' hS => val_assign rfl) ?_
    refine Sch.nil ?_
    refine run_ret1 (by kernel_rfl) Try.func62 Try.results62 rfl ?_
    exact ⟨eq_int (by unfold cmpI; split <;> (try split) <;> omega), rfl⟩
  · skip
    refine run_skip (by kernel_rfl) ?_
    refine run_seq (x := F62.c39) (y := F62.c46) (by kernel_rfl) ?_
    refine run_seq (x := F62.c40) (y := F62.c41) (by kernel_rfl) ?_
    refine run_plain (id := 11) (ops := F62.o11) [(0, true), (1, true), (2, true)] (by kernel_rfl) (by kernel_rfl) ?_
    refine yS (by kernel_rfl : opAt F62.o11 0 = some (some 17, .move (.tmp 0), none)) rfl rfl (fun w' hS => val_move rfl) ?_
    refine yS (by kernel_rfl : opAt F62.o11 1 = some (some 18, .move (.tmp 1), none)) rfl rfl (fun w' hS => val_move rfl) ?_
    refine yS (by kernel_rfl : opAt F62.o11 2 = some (some 19, .binOp .gtr 59 (.tmp 17) (.tmp 18) 59, none)) rfl rfl (fun w' hS => val_gtr rfl rfl) ?_
    refine Sch.nil ?_
    refine run_if (x := F62.c42) (y := F62.c45) (o := .tmp 19) (by kernel_rfl) rfl (fun h19 => ?_) (fun h19 => ?_)
    · skip
      refine run_seq (x := F62.c43) (y := F62.c44) (by kernel_rfl) ?_
      refine run_plain (id := 12) (ops := F62.o12) [(0, true)] (by kernel_rfl) (by kernel_rfl) ?_
      refine yS (by kernel_rfl : opAt F62.o12 0 = some (some 4, .assign (.const (.int .i64 1)), none)) rfl rfl (fun w' hS => val_assign rfl) ?_
      refine Sch.nil ?_
      refine run_ret1 (by kernel_rfl) Try.func62 Try.results62 rfl ?_
      exact ⟨eq_int (by unfold cmpI; split <;> (try split) <;> omega), rfl⟩
    · skip
      refine run_skip (by kernel_rfl) ?_
      refine run_seq (x := F62.c47) (y := F62.c48) (by kernel_rfl) ?_
      refine run_plain (id := 13) (ops := F62.o13) [(0, true)] (by kernel_rfl) (by kernel_rfl) ?_
      refine yS (by kernel_rfl : opAt F62.o13 0 = some (some 4, .assign (.const (.int .i64 0)), none)) rfl rfl (fun w' hS => val_assign rfl) ?_
      refine Sch.nil ?_
      refine run_ret1 (by kernel_rfl) Try.func62 Try.results62 rfl ?_
      exact ⟨eq_int (by unfold cmpI; split <;> (try split) <;> omega), rfl⟩
namespace F52
noncomputable def c0 : Code := bodyOf Try.f52
noncomputable def c1 : Code := cl c0
noncomputable def o0 : Array Oper := rops c1
noncomputable def c2 : Code := cr c0
noncomputable def c3 : Code := cl c2
noncomputable def c4 : Code := cl c3
noncomputable def o1 : Array Oper := rops c4
noncomputable def c5 : Code := cr c3
noncomputable def c6 : Code := cl c5
noncomputable def c7 : Code := cl c6
noncomputable def c8 : Code := cl c7
noncomputable def o2 : Array Oper := rops c8
noncomputable def c9 : Code := cr c7
noncomputable def c10 : Code := cl c9
noncomputable def c11 : Code := cl c10
noncomputable def c12 : Code := cr c10
noncomputable def c13 : Code := cr c9
noncomputable def c14 : Code := cl c13
noncomputable def c15 : Code := cl c14
noncomputable def c16 : Code := cl c15
noncomputable def o3 : Array Oper := rops c16
noncomputable def c17 : Code := cr c15
noncomputable def c18 : Code := cl c17
noncomputable def c19 : Code := cl c18
noncomputable def o4 : Array Oper := rops c19
noncomputable def c20 : Code := cr c18
noncomputable def c21 : Code := cl c20
noncomputable def c22 : Code := cl c21
noncomputable def o5 : Array Oper := rops c22
noncomputable def c23 : Code := cr c21
noncomputable def c24 : Code := cr c20
noncomputable def c25 : Code := cr c17
noncomputable def c26 : Code := cl c25
noncomputable def o6 : Array Oper := rops c26
noncomputable def c27 : Code := cr c25
noncomputable def c28 : Code := cl c27
noncomputable def o7 : Array Oper := rops c28
noncomputable def c29 : Code := cr c27
noncomputable def c30 : Code := cl c29
noncomputable def o8 : Array Oper := rops c30
noncomputable def c31 : Code := cr c29
noncomputable def c32 : Code := cl c31
noncomputable def c33 : Code := cl c32
noncomputable def o9 : Array Oper := rops c33
noncomputable def c34 : Code := cr c32
noncomputable def c35 : Code := cr c31
noncomputable def c36 : Code := cr c13
noncomputable def o10 : Array Oper := rops c36
noncomputable def c37 : Code := cr c2
noncomputable def c38 : Code := cl c37
noncomputable def c39 : Code := cl c38
noncomputable def o11 : Array Oper := rops c39
noncomputable def c40 : Code := cr c38
noncomputable def c41 : Code := cl c40
noncomputable def c42 : Code := cl c41
noncomputable def o12 : Array Oper := rops c42
noncomputable def c43 : Code := cr c41
noncomputable def c44 : Code := cr c40
noncomputable def c45 : Code := cr c37
noncomputable def c46 : Code := cl c45
noncomputable def o13 : Array Oper := rops c46
noncomputable def c47 : Code := cr c45
end F52
theorem sliceCmp_ok {w₀ : World} {M : Nat → Prop} {xs ys : List U64} {px py : Value} (hx : RV w₀ M xs px) (hy : RV w₀ M ys py) : Calls Try.prog 52 #[px, py] w₀ (Ret fun v w' => ∃ c : Int, v = .int .i64 c ∧ (c = 0 ↔ xs = ys) ∧ w' = w₀) := by
  refine calls_start (c := F52.c0) (N := 36) [px, py] Try.func52 (by kernel_rfl) (by kernel_rfl) (by kernel_rfl) ?_
  show Run _ _ _ _ [(0, px), (1, py)] _ _
  refine run_seq (x := F52.c1) (y := F52.c2) (by kernel_rfl) ?_
  refine run_plain (id := 0) (ops := F52.o0) [(0, true)] (by kernel_rfl) (by kernel_rfl) ?_
  refine yS (by kernel_rfl : opAt F52.o0 0 = some (some 4, .assign (.const (.int .i64 0)), none)) rfl rfl (fun w' hS => val_assign rfl) ?_
  refine Sch.nil ?_
  refine run_seq (x := F52.c3) (y := F52.c37) (by kernel_rfl) ?_
  refine run_seq (x := F52.c4) (y := F52.c5) (by kernel_rfl) ?_
  refine run_plain (id := 1) (ops := F52.o1) [(0, true), (1, true), (2, true)] (by kernel_rfl) (by kernel_rfl) ?_
  refine yS (by kernel_rfl : opAt F52.o1 0 = some (some 9, .move (.tmp 0), none)) rfl rfl (fun w' hS => val_move rfl) ?_
  refine yS (by kernel_rfl : opAt F52.o1 1 = some (some 10, .call { callee := .builtin .len, args := #[(.tmp 9)], argTypes := #[31] }, none)) rfl rfl (fun w' hS => hx.lenV rfl Try.underlying31 w' ) ?_
  refine yS (by kernel_rfl : opAt F52.o1 2 = some (some 11, .move (.const (.int .i64 0)), none)) rfl rfl (fun w' hS => val_move rfl) ?_
  refine Sch.nil ?_
  refine run_block (x := F52.c6) (id := 0) (by kernel_rfl) ?_
  
  refine run_loop (ι := Nat) (I := fun x w => x ≤ xs.length ∧ x ≤ ys.length ∧ (∀ q (h1 : q < xs.length) (h2 : q < ys.length), q < x → xs[q] = ys[q]) ∧ w = w₀) (e := fun x => [(0, px), (1, py), (9, px), (10, .int .i64 xs.length), (11, .int .i64 x)]) (m := fun x => xs.length - x) (x₀ := 0) (body := F52.c7) (by kernel_rfl) (sub_cons 0 rfl rfl (sub_cons 1 rfl rfl (sub_cons 9 rfl rfl (sub_cons 10 rfl rfl (sub_cons 11 rfl rfl (sub_nil _)))))) ?_ ?_
  · exact ⟨Nat.zero_le _, Nat.zero_le _, (fun q _ _ hq => by first | omega | (simp only at hq; omega)), rfl⟩
  intro i w1 hI next
  obtain ⟨hi, hiy, h0, rfl⟩ := hI
  try simp only at hi hiy h0
  have next1 := next
  clear next
  show Run _ _ _ _ [(0, px), (1, py), (9, px), (10, .int .i64 xs.length), (11, .int .i64 i)] _ _
  have hle := hx.le
  have hle2 := hy.le
  refine run_seq (x := F52.c8) (y := F52.c9) (by kernel_rfl) ?_
  refine run_plain (id := 2) (ops := F52.o2) [(0, true)] (by kernel_rfl) (by kernel_rfl) ?_
  refine yS (by kernel_rfl : opAt F52.o2 0 = some (some 12, .binOp .lss 3 (.tmp 11) (.tmp 10) 3, none)) rfl rfl (fun w' hS => val_lss rfl rfl) ?_
  refine Sch.nil ?_
  refine run_seq (x := F52.c10) (y := F52.c13) (by kernel_rfl) ?_
  refine run_if (x := F52.c11) (y := F52.c12) (o := .tmp 12) (by kernel_rfl) rfl (fun h12 => ?_) (fun h12 => ?_)
  · skip
    have hil : i < xs.length := by omega
    refine run_skip (by kernel_rfl) ?_
    refine run_seq (x := F52.c14) (y := F52.c36) (by kernel_rfl) ?_
    refine run_block (x := F52.c15) (id := 1) (by kernel_rfl) ?_
    refine run_seq (x := F52.c16) (y := F52.c17) (by kernel_rfl) ?_
    refine run_plain (id := 3) (ops := F52.o3) [(0, true), (1, true), (2, false), (3, true), (4, true)] (by kernel_rfl) (by kernel_rfl) ?_
    refine yS (by kernel_rfl : opAt F52.o3 0 = some (some 13, .move (.tmp 11), none)) rfl rfl (fun w' hS => val_move rfl) ?_
    refine iS (e := 59) (by kernel_rfl : opAt F52.o3 1 = some (some 14, .indexAddr 31 (.tmp 9) (.tmp 11), none)) rfl rfl hx rfl (by kernel_rfl) rfl (by omega) (by omega) ?_
    intro b14 o14 h14
    try simp only [Int.toNat_natCast] at h14
    refine lN (by kernel_rfl : opAt F52.o3 2 = some (some 15, .load 59 (.tmp 14), none)) rfl rfl trivial h14 (by kernel_rfl) rfl rfl ?_
    intro v15 g15
    obtain rfl := rv_num.1 g15
    refine yS (by kernel_rfl : opAt F52.o3 3 = some (some 5, .assign (.tmp 13), none)) rfl rfl (fun w' hS => val_assign rfl) ?_
    refine yS (by kernel_rfl : opAt F52.o3 4 = some (some 6, .assign (.tmp 15), none)) rfl rfl (fun w' hS => val_assign rfl) ?_
    refine Sch.nil ?_
    refine run_seq (x := F52.c18) (y := F52.c25) (by kernel_rfl) ?_
    refine run_seq (x := F52.c19) (y := F52.c20) (by kernel_rfl) ?_
    refine run_plain (id := 4) (ops := F52.o4) [(0, true), (1, true), (2, true), (3, true)] (by kernel_rfl) (by kernel_rfl) ?_
    refine yS (by kernel_rfl : opAt F52.o4 0 = some (some 16, .move (.tmp 5), none)) rfl rfl (fun w' hS => val_move rfl) ?_
    refine yS (by kernel_rfl : opAt F52.o4 1 = some (some 17, .move (.tmp 1), none)) rfl rfl (fun w' hS => val_move rfl) ?_
    refine yS (by kernel_rfl : opAt F52.o4 2 = some (some 18, .call { callee := .builtin .len, args := #[(.tmp 17)], argTypes := #[31] }, none)) rfl rfl (fun w' hS => hy.lenV rfl Try.underlying31 w' ) ?_
    refine yS (by kernel_rfl : opAt F52.o4 3 = some (some 19, .binOp .geq 3 (.tmp 16) (.tmp 18) 3, none)) rfl rfl (fun w' hS => val_geq rfl rfl) ?_
    refine Sch.nil ?_
    refine run_if (x := F52.c21) (y := F52.c24) (o := .tmp 19) (by kernel_rfl) rfl (fun h19 => ?_) (fun h19 => ?_)
    · skip
      refine run_seq (x := F52.c22) (y := F52.c23) (by kernel_rfl) ?_
      refine run_plain (id := 5) (ops := F52.o5) [(0, true)] (by kernel_rfl) (by kernel_rfl) ?_
      refine yS (by kernel_rfl : opAt F52.o5 0 = some (some 4, .assign (.const (.int .i64 1)), none)) rfl rfl (fun w' hS => val_assign rfl) ?_
      refine Sch.nil ?_
      refine run_ret1 (by kernel_rfl) Try.func52 Try.results52 rfl ?_
      exact ⟨_, rfl, ⟨fun e => by omega, fun e => by subst e; omega⟩, rfl⟩
    · skip
      have hil2 : i < ys.length := by omega
      refine run_skip (by kernel_rfl) ?_
      refine run_seq (x := F52.c26) (y := F52.c27) (by kernel_rfl) ?_
      refine run_plain (id := 6) (ops := F52.o6) [(0, true), (1, true), (2, true), (3, false), (4, true)] (by kernel_rfl) (by kernel_rfl) ?_
      refine yS (by kernel_rfl : opAt F52.o6 0 = some (some 20, .move (.tmp 1), none)) rfl rfl (fun w' hS => val_move rfl) ?_
      refine yS (by kernel_rfl : opAt F52.o6 1 = some (some 21, .move (.tmp 5), none)) rfl rfl (fun w' hS => val_move rfl) ?_
      refine iS (e := 59) (by kernel_rfl : opAt F52.o6 2 = some (some 22, .indexAddr 31 (.tmp 20) (.tmp 21), none)) rfl rfl hy rfl (by kernel_rfl) rfl (by omega) (by omega) ?_
      intro b22 o22 h22
      try simp only [Int.toNat_natCast] at h22
      refine lN (by kernel_rfl : opAt F52.o6 3 = some (some 23, .load 59 (.tmp 22), none)) rfl rfl trivial h22 (by kernel_rfl) rfl rfl ?_
      intro v23 g23
      obtain rfl := rv_num.1 g23
      refine yS (by kernel_rfl : opAt F52.o6 4 = some (some 7, .assign (.tmp 23), none)) rfl rfl (fun w' hS => val_assign rfl) ?_
      refine Sch.nil ?_
      refine run_seq (x := F52.c28) (y := F52.c29) (by kernel_rfl) ?_
      refine run_plain (id := 7) (ops := F52.o7) [(0, true), (1, true), (2, false), (3, true)] (by kernel_rfl) (by kernel_rfl) ?_
      refine yS (by kernel_rfl : opAt F52.o7 0 = some (some 24, .move (.tmp 6), none)) rfl rfl (fun w' hS => val_move rfl) ?_
      refine yS (by kernel_rfl : opAt F52.o7 1 = some (some 25, .move (.tmp 7), none)) rfl rfl (fun w' hS => val_move rfl) ?_
      refine cS (by kernel_rfl : opAt F52.o7 2 = some (some 26, .call { callee := .value (.func 62), args := #[(.tmp 24), (.tmp 25)], argTypes := #[59, 59] }, none)) rfl rfl (ent Try.call62 rfl) (cmpU_ok _ _ _) ?_
      rintro vw2 w2 ⟨rfl, rfl⟩
      refine ⟨trivial, ?_⟩
      refine yS (by kernel_rfl : opAt F52.o7 3 = some (some 8, .assign (.tmp 26), none)) rfl rfl (fun w' hS => val_assign rfl) ?_
      refine Sch.nil ?_
      refine run_seq (x := F52.c30) (y := F52.c31) (by kernel_rfl) ?_
      refine run_plain (id := 8) (ops := F52.o8) [(0, true), (1, true)] (by kernel_rfl) (by kernel_rfl) ?_
      refine yS (by kernel_rfl : opAt F52.o8 0 = some (some 27, .move (.tmp 8), none)) rfl rfl (fun w' hS => val_move rfl) ?_
      refine yS (by kernel_rfl : opAt F52.o8 1 = some (some 28, .binOp .neq 3 (.tmp 27) (.const (.int .i64 0)) 3, none)) rfl rfl (fun w' hS => val_neq rfl rfl) ?_
      refine Sch.nil ?_
      refine run_if (x := F52.c32) (y := F52.c35) (o := .tmp 28) (by kernel_rfl) rfl (fun h28 => ?_) (fun h28 => ?_)
      · skip
        refine run_seq (x := F52.c33) (y := F52.c34) (by kernel_rfl) ?_
        refine run_plain (id := 9) (ops := F52.o9) [(0, true), (1, true)] (by kernel_rfl) (by kernel_rfl) ?_
        refine yS (by kernel_rfl : opAt F52.o9 0 = some (some 29, .move (.tmp 8), none)) rfl rfl (fun w' hS => val_move rfl) ?_
        refine yS (by kernel_rfl : opAt F52.o9 1 = some (some 4, .assign (.tmp 29), none)) rfl rfl (fun w' hS => val_assign rfl) ?_
        refine Sch.nil ?_
        refine run_ret1 (by kernel_rfl) Try.func52 Try.results52 rfl ?_
        exact ⟨_, rfl, ⟨fun e => absurd e h28, fun e => by subst e; exact absurd (cmpI_zero.2 rfl) h28⟩, rfl⟩
      · skip
        refine run_skip (by kernel_rfl) ?_
        refine run_inBlock ?_
        refine run_plain (id := 10) (ops := F52.o10) [(0, true), (1, true)] (by kernel_rfl) (by kernel_rfl) ?_
        refine yS (by kernel_rfl : opAt F52.o10 0 = some (some 30, .binOp .add 3 (.tmp 11) (.const (.int .i64 1)) 3, none)) rfl rfl (fun w' hS => val_addi rfl rfl (by omega) (by omega)) ?_
        refine yS (by kernel_rfl : opAt F52.o10 1 = some (some 11, .move (.tmp 30), none)) rfl rfl (fun w' hS => val_move rfl) ?_
        refine Sch.nil ?_
        refine kp (sub_cons 0 rfl rfl (sub_cons 1 rfl rfl (sub_cons 9 rfl rfl (sub_cons 10 rfl rfl (sub_cons 11 rfl (eq_int (by simp)) (sub_nil _)))))) (next1 (i + 1) _ ⟨(by first | omega | (simp only; omega)), (by first | omega | (simp only; omega)), (fun q h1 h2 hq => by
            try simp only at hq
            by_cases e : q = i
            · subst e; exact Num.ext_ (cmpI_zero.1 (Classical.not_not.1 h28))
            · exact h0 q h1 h2 (by omega)), rfl⟩ (by first | omega | (simp only; omega)))
  · skip
    have hil : i = xs.length := by omega
    refine run_exit (id := 0) (by kernel_rfl) rfl ?_
    refine run_seq (x := F52.c38) (y := F52.c45) (by kernel_rfl) ?_
    refine run_seq (x := F52.c39) (y := F52.c40) (by kernel_rfl) ?_
    refine run_plain (id := 11) (ops := F52.o11) [(0, true), (1, true), (2, true), (3, true), (4, true)] (by kernel_rfl) (by kernel_rfl) ?_
    refine yS (by kernel_rfl : opAt F52.o11 0 = some (some 31, .move (.tmp 0), none)) rfl rfl (fun w' hS => val_move rfl) ?_
    refine yS (by kernel_rfl : opAt F52.o11 1 = some (some 32, .call { callee := .builtin .len, args := #[(.tmp 31)], argTypes := #[31] }, none)) rfl rfl (fun w' hS => hx.lenV rfl Try.underlying31 w' ) ?_
    refine yS (by kernel_rfl : opAt F52.o11 2 = some (some 33, .move (.tmp 1), none)) rfl rfl (fun w' hS => val_move rfl) ?_
    refine yS (by kernel_rfl : opAt F52.o11 3 = some (some 34, .call { callee := .builtin .len, args := #[(.tmp 33)], argTypes := #[31] }, none)) rfl rfl (fun w' hS => hy.lenV rfl Try.underlying31 w' ) ?_
    refine yS (by kernel_rfl : opAt F52.o11 4 = some (some 35, .binOp .lss 3 (.tmp 32) (.tmp 34) 3, none)) rfl rfl (fun w' hS => val_lss rfl rfl) ?_
    refine Sch.nil ?_
    refine run_if (x := F52.c41) (y := F52.c44) (o := .tmp 35) (by kernel_rfl) rfl (fun h35 => ?_) (fun h35 => ?_)
    · skip
      refine run_seq (x := F52.c42) (y := F52.c43) (by kernel_rfl) ?_
      refine run_plain (id := 12) (ops := F52.o12) [(0, true)] (by kernel_rfl) (by kernel_rfl) ?_
      refine yS (by kernel_rfl : opAt F52.o12 0 = some (some 4, .assign (.const (.int .i64 (-1))), none)) rfl rfl (fun w' hS => val_assign rfl) ?_
      refine Sch.nil ?_
      refine run_ret1 (by kernel_rfl) Try.func52 Try.results52 rfl ?_
      exact ⟨_, rfl, ⟨fun e => by omega, fun e => by subst e; omega⟩, rfl⟩
    · skip
      refine run_skip (by kernel_rfl) ?_
      refine run_seq (x := F52.c46) (y := F52.c47) (by kernel_rfl) ?_
      refine run_plain (id := 13) (ops := F52.o13) [(0, true)] (by kernel_rfl) (by kernel_rfl) ?_
      refine yS (by kernel_rfl : opAt F52.o13 0 = some (some 4, .assign (.const (.int .i64 0)), none)) rfl rfl (fun w' hS => val_assign rfl) ?_
      refine Sch.nil ?_
      refine run_ret1 (by kernel_rfl) Try.func52 Try.results52 rfl ?_
      exact ⟨_, rfl, ⟨fun _ => List.ext_getElem (by omega) (fun q h1 h2 => h0 q h1 h2 (by omega)), fun _ => rfl⟩, rfl⟩
namespace F32
noncomputable def c0 : Code := bodyOf Try.f32
noncomputable def c1 : Code := cl c0
noncomputable def o0 : Array Oper := rops c1
noncomputable def c2 : Code := cr c0
noncomputable def c3 : Code := cl c2
noncomputable def o1 : Array Oper := rops c3
noncomputable def c4 : Code := cr c2
end F32
theorem bitsCmp_ok {w₀ : World} {C : Nat → Nat} {x y : Bits} {u v : Value} (hF : Lim w₀ C) (hw : RV w₀ (Mc C) x.words u) (hz : RV w₀ (Mc C) y.words v) : Calls Try.prog 32 #[.agg #[.int .i64 x.len, u], .agg #[.int .i64 y.len, v]] w₀ (Ret fun r w' => ∃ c : Int, r = .int .i64 c ∧ (c = 0 ↔ x = y) ∧ Stp [] w₀ C w' C) := by
  have hF0 := hF
  have hT := Stp.refl [2, 3, 4, 5, 6, 7, 8, 9] w₀ (col1 C)
  replace hF := hF.col1
  replace hw : RV w₀ (Mc (col1 C)) x.words u := by rw [Mc_col1]; exact hw
  replace hz : RV w₀ (Mc (col1 C)) y.words v := by rw [Mc_col1]; exact hz
  refine calls_start (c := F32.c0) (N := 24) [.agg #[.int .i64 x.len, u], .agg #[.int .i64 y.len, v]] Try.func32 (by kernel_rfl) (by kernel_rfl) (by kernel_rfl) ?_
  show Run _ _ _ _ [(0, .agg #[.int .i64 x.len, u]), (1, .agg #[.int .i64 y.len, v])] _ _
  refine run_seq (x := F32.c1) (y := F32.c2) (by kernel_rfl) ?_
  refine run_plain (id := 0) (ops := F32.o0) [(0, false), (1, false), (2, true)] (by kernel_rfl) (by kernel_rfl) ?_
  refine aS (by kernel_rfl : opAt F32.o0 0 = some (some 2, .box 33 (.tmp 0), none)) rfl rfl (a_box (cs := [.int .i64 x.len, u]) hF 3 rfl rfl) ?_
  rintro _ w1 ⟨Cw1, bw1, rfl, hs, hx, hF⟩
  refine ⟨trivial, ?_⟩
  replace hT := hT.trans hs (by simp)
  replace hw := hw.st hs (by first | decide | (simp <;> omega))
  replace hz := hz.st hs (by first | decide | (simp <;> omega))
  refine aS (by kernel_rfl : opAt F32.o0 1 = some (some 3, .box 33 (.tmp 1), none)) rfl rfl (a_box (cs := [.int .i64 y.len, v]) hF 3 rfl rfl) ?_
  rintro _ w2 ⟨Cw2, bw2, rfl, hs, hy, hF⟩
  refine ⟨trivial, ?_⟩
  replace hT := hT.trans hs (by simp)
  replace hw := hw.st hs (by first | decide | (simp <;> omega))
  replace hz := hz.st hs (by first | decide | (simp <;> omega))
  replace hx := hx.st hs (by first | decide | (simp <;> omega))
  refine yS (by kernel_rfl : opAt F32.o0 2 = some (some 4, .assign (.const (.int .i64 0)), none)) rfl rfl (fun w' hS => val_assign rfl) ?_
  refine Sch.nil ?_
  refine run_seq (x := F32.c3) (y := F32.c4) (by kernel_rfl) ?_
  refine run_draw (id := 1) (ops := F32.o1) [] (Cw2) [(0, true), (1, true), (2, true), (3, true), (5, true), (6, true), (7, true), (8, true), (9, true), (10, true), (12, true), (13, true), (14, true), (15, true), (4, false), (11, false), (16, false), (17, false), (18, false), (19, true)] Try_mixed (by kernel_rfl) (by kernel_rfl) (by kernel_rfl) ?_
  intro w3 hs
  replace hF := hF.st hs
  replace hT := hT.trans hs (by simp)
  replace hw := hw.st hs (by first | decide | (simp <;> omega))
  replace hz := hz.st hs (by first | decide | (simp <;> omega))
  replace hx := hx.st hs (by first | decide | (simp <;> omega))
  replace hy := hy.st hs (by first | decide | (simp <;> omega))
  have hR := Stp.refl [] w3 (Cw2)
  refine yS (by kernel_rfl : opAt F32.o1 0 = some (some 5, .fieldAddr 33 (.tmp 2) 0, none)) rfl rfl (fun w' hS => val_fieldAddr (off := 0) (by kernel_rfl) rfl) ?_
  refine yS (by kernel_rfl : opAt F32.o1 1 = some (some 6, .load 3 (.tmp 5), none)) rfl rfl (fun w' hS => val_loadOwn (hx.stay hS (by decide)) (by kernel_rfl) rfl rfl) ?_
  refine yS (by kernel_rfl : opAt F32.o1 2 = some (some 7, .fieldAddr 33 (.tmp 3) 0, none)) rfl rfl (fun w' hS => val_fieldAddr (off := 0) (by kernel_rfl) rfl) ?_
  refine yS (by kernel_rfl : opAt F32.o1 3 = some (some 8, .load 3 (.tmp 7), none)) rfl rfl (fun w' hS => val_loadOwn (hy.stay hS (by decide)) (by kernel_rfl) rfl rfl) ?_
  refine yS (by kernel_rfl : opAt F32.o1 5 = some (some 10, .fieldAddr 33 (.tmp 2) 1, none)) rfl rfl (fun w' hS => val_fieldAddr (off := 1) (by kernel_rfl) rfl) ?_
  refine yS (by kernel_rfl : opAt F32.o1 6 = some (some 11, .load 31 (.tmp 10), none)) rfl rfl (fun w' hS => val_loadOwn (hx.stay hS (by decide)) (by kernel_rfl) rfl rfl) ?_
  refine yS (by kernel_rfl : opAt F32.o1 7 = some (some 12, .call { callee := .builtin .len, args := #[(.tmp 11)], argTypes := #[31] }, none)) rfl rfl (fun w' hS => hw.lenV rfl Try.underlying31 w' ) ?_
  refine yS (by kernel_rfl : opAt F32.o1 8 = some (some 13, .fieldAddr 33 (.tmp 3) 1, none)) rfl rfl (fun w' hS => val_fieldAddr (off := 1) (by kernel_rfl) rfl) ?_
  refine yS (by kernel_rfl : opAt F32.o1 9 = some (some 14, .load 31 (.tmp 13), none)) rfl rfl (fun w' hS => val_loadOwn (hy.stay hS (by decide)) (by kernel_rfl) rfl rfl) ?_
  refine yS (by kernel_rfl : opAt F32.o1 10 = some (some 15, .call { callee := .builtin .len, args := #[(.tmp 14)], argTypes := #[31] }, none)) rfl rfl (fun w' hS => hz.lenV rfl Try.underlying31 w' ) ?_
  refine yS (by kernel_rfl : opAt F32.o1 12 = some (some 17, .fieldAddr 33 (.tmp 2) 1, none)) rfl rfl (fun w' hS => val_fieldAddr (off := 1) (by kernel_rfl) rfl) ?_
  refine yS (by kernel_rfl : opAt F32.o1 13 = some (some 18, .load 31 (.tmp 17), none)) rfl rfl (fun w' hS => val_loadOwn (hx.stay hS (by decide)) (by kernel_rfl) rfl rfl) ?_
  refine yS (by kernel_rfl : opAt F32.o1 14 = some (some 19, .fieldAddr 33 (.tmp 3) 1, none)) rfl rfl (fun w' hS => val_fieldAddr (off := 1) (by kernel_rfl) rfl) ?_
  refine yS (by kernel_rfl : opAt F32.o1 15 = some (some 20, .load 31 (.tmp 19), none)) rfl rfl (fun w' hS => val_loadOwn (hy.stay hS (by decide)) (by kernel_rfl) rfl rfl) ?_
  refine cS (by kernel_rfl : opAt F32.o1 4 = some (some 9, .call { callee := .value (.func 51), args := #[(.tmp 6), (.tmp 8)], argTypes := #[3, 3] }, none)) rfl rfl (ent Try.call51 rfl) (cmpI_ok _ _ _) ?_
  rintro vw4 w4 ⟨rfl, rfl⟩
  refine ⟨hR.ext, ?_⟩
  refine cS (by kernel_rfl : opAt F32.o1 11 = some (some 16, .call { callee := .value (.func 51), args := #[(.tmp 12), (.tmp 15)], argTypes := #[3, 3] }, none)) rfl rfl (ent Try.call51 rfl) (cmpI_ok _ _ _) ?_
  rintro vw5 w5 ⟨rfl, rfl⟩
  refine ⟨hR.ext, ?_⟩
  refine cS (by kernel_rfl : opAt F32.o1 16 = some (some 21, .call { callee := .value (.func 52), args := #[(.tmp 18), (.tmp 20)], argTypes := #[31, 31] }, none)) rfl rfl (ent Try.call52 rfl) (sliceCmp_ok hw hz) ?_
  rintro vw6 w6 ⟨c, rfl, hc, rfl⟩
  refine ⟨hR.ext, ?_⟩
  refine aS (by kernel_rfl : opAt F32.o1 17 = some (some 22, .buildSlice 22 3 #[(0, (.tmp 9)), (1, (.tmp 16)), (2, (.tmp 21))], none)) rfl rfl (a_buildSlice (ys := ([cmpI x.len y.len, cmpI x.words.length y.words.length, c] : List Int)) (e := 3) (bytes := 8) hF (by kernel_rfl) rfl (by decide) (by decide) ⟨rfl, ⟨_, rfl, rv_int.2 rfl⟩, rfl, ⟨_, rfl, rv_int.2 rfl⟩, rfl, ⟨_, rfl, rv_int.2 rfl⟩, trivial⟩) ?_
  rintro v22 w7 ⟨hs, g22, hF⟩
  refine ⟨(hR.trans hs (by simp)).ext, ?_⟩
  replace hT := hT.trans hs (by simp)
  replace hw := hw.st hs (by first | decide | (simp <;> omega))
  replace hz := hz.st hs (by first | decide | (simp <;> omega))
  replace hx := hx.st hs (by first | decide | (simp <;> omega))
  replace hy := hy.st hs (by first | decide | (simp <;> omega))
  replace hR := hR.trans hs (by simp)
  refine cS (by kernel_rfl : opAt F32.o1 18 = some (some 23, .call { callee := .value (.func 50), args := #[(.tmp 22)], argTypes := #[22] }, none)) rfl rfl (ent Try.call50 rfl) (orI_ok g22) ?_
  rintro vw8 w8 ⟨rfl, rfl⟩
  refine ⟨hR.ext, ?_⟩
  refine yS (by kernel_rfl : opAt F32.o1 19 = some (some 4, .assign (.tmp 23), none)) rfl rfl (fun w' hS => val_assign rfl) ?_
  refine Sch.nil ?_
  refine run_ret1 (by kernel_rfl) Try.func32 Try.results32 rfl ?_
  exact ⟨_, rfl, bits_or3 hc, hT.out1 (by decide)⟩
namespace F36
noncomputable def c0 : Code := bodyOf Try.f36
noncomputable def c1 : Code := cl c0
noncomputable def o0 : Array Oper := rops c1
noncomputable def c2 : Code := cr c0
noncomputable def c3 : Code := cl c2
noncomputable def c4 : Code := cl c3
noncomputable def o1 : Array Oper := rops c4
noncomputable def c5 : Code := cr c3
noncomputable def c6 : Code := cl c5
noncomputable def c7 : Code := cl c6
noncomputable def o2 : Array Oper := rops c7
noncomputable def c8 : Code := cr c6
noncomputable def c9 : Code := cr c5
noncomputable def c10 : Code := cr c2
noncomputable def c11 : Code := cl c10
noncomputable def c12 : Code := cl c11
noncomputable def o3 : Array Oper := rops c12
noncomputable def c13 : Code := cr c11
noncomputable def c14 : Code := cl c13
noncomputable def c15 : Code := cl c14
noncomputable def o4 : Array Oper := rops c15
noncomputable def c16 : Code := cr c14
noncomputable def c17 : Code := cr c13
noncomputable def c18 : Code := cr c10
noncomputable def c19 : Code := cl c18
noncomputable def o5 : Array Oper := rops c19
noncomputable def c20 : Code := cr c18
end F36
theorem order_ok (x y : Int) (w : World) : Calls Try.prog 36 #[.int .i64 x, .int .i64 y] w (Ret fun v w' => v = .int .i64 (cmpI x y) ∧ w' = w) := by
  refine calls_start (c := F36.c0) (N := 11) [.int .i64 x, .int .i64 y] Try.func36 (by kernel_rfl) (by kernel_rfl) (by kernel_rfl) ?_
  show Run _ _ _ _ [(0, .int .i64 x), (1, .int .i64 y)] _ _
  refine run_seq (x := F36.c1) (y := F36.c2) (by kernel_rfl) ?_
  refine run_plain (id := 0) (ops := F36.o0) [(0, true)] (by kernel_rfl) (by kernel_rfl) ?_
  refine yS (by kernel_rfl : opAt F36.o0 0 = some (some 4, .assign (.const (.int .i64 0)), none)) rfl rfl (fun w' hS => val_assign rfl) ?_
  refine Sch.nil ?_
  refine run_seq (x := F36.c3) (y := F36.c10) (by kernel_rfl) ?_
  refine run_seq (x := F36.c4) (y := F36.c5) (by kernel_rfl) ?_
  refine run_plain (id := 1) (ops := F36.o1) [(0, true), (1, true), (2, true)] (by kernel_rfl) (by kernel_rfl) ?_
  refine yS (by kernel_rfl : opAt F36.o1 0 = some (some 5, .move (.tmp 0), none)) rfl rfl (fun w' hS => val_move rfl) ?_
  refine yS (by kernel_rfl : opAt F36.o1 1 = some (some 6, .move (.tmp 1), none)) rfl rfl (fun w' hS => val_move rfl) ?_
  refine yS (by kernel_rfl : opAt F36.o1 2 = some (some 7, .binOp .lss 3 (.tmp 5) (.tmp 6) 3, none)) rfl rfl (fun w' hS => val_lss rfl rfl) ?_
  refine Sch.nil ?_
  refine run_if (x := F36.c6) (y := F36.c9) (o := .tmp 7) (by kernel_rfl) rfl (fun h7 => ?_) (fun h7 => ?_)
  · skip
    refine run_seq (x := F36.c7) (y := F36.c8) (by kernel_rfl) ?_
    refine run_plain (id := 2) (ops := F36.o2) [(0, true)] (by kernel_rfl) (by kernel_rfl) ?_
    refine yS (by kernel_rfl : opAt F36.o2 0 = some (some 4, .assign (.const (.int .i64 (-1))), none)) rfl rfl (fun w' hS => val_assign rfl) ?_
    refine Sch.nil ?_
    refine run_ret1 (by kernel_rfl) Try.func36 Try.results36 rfl ?_
    exact ⟨eq_int (by unfold cmpI; split <;> (try split) <;> omega), rfl⟩
  · skip
    refine run_skip (by kernel_rfl) ?_
    refine run_seq (x := F36.c11) (y := F36.c18) (by kernel_rfl) ?_
    refine run_seq (x := F36.c12) (y := F36.c13) (by kernel_rfl) ?_
    refine run_plain (id := 3) (ops := F36.o3) [(0, true), (1, true), (2, true)] (by kernel_rfl) (by kernel_rfl) ?_
    refine yS (by kernel_rfl : opAt F36.o3 0 = some (some 8, .move (.tmp 0), none)) rfl rfl (fun w' hS => val_move rfl) ?_
    refine yS (by kernel_rfl : opAt F36.o3 1 = some (some 9, .move (.tmp 1), none)) rfl rfl (fun w' hS => val_move rfl) ?_
    refine yS (by kernel_rfl : opAt F36.o3 2 = some (some 10, .binOp .gtr 3 (.tmp 8) (.tmp 9) 3, none)) rfl rfl (fun w' hS => val_gtr rfl rfl) ?_
    refine Sch.nil ?_
    refine run_if (x := F36.c14) (y := F36.c17) (o := .tmp 10) (by kernel_rfl) rfl (fun h10 => ?_) (fun h10 => ?_)
    · skip
      refine run_seq (x := F36.c15) (y := F36.c16) (by kernel_rfl) ?_
      refine run_plain (id := 4) (ops := F36.o4) [(0, true)] (by kernel_rfl) (by kernel_rfl) ?_
      refine yS (by kernel_rfl : opAt F36.o4 0 = some (some 4, .assign (.const (.int .i64 1)), none)) rfl rfl (fun w' hS => val_assign rfl) ?_
      refine Sch.nil ?_
      refine run_ret1 (by kernel_rfl) Try.func36 Try.results36 rfl ?_
      exact ⟨eq_int (by unfold cmpI; split <;> (try split) <;> omega), rfl⟩
    · skip
      refine run_skip (by kernel_rfl) ?_
      refine run_seq (x := F36.c19) (y := F36.c20) (by kernel_rfl) ?_
      refine run_plain (id := 5) (ops := F36.o5) [(0, true)] (by kernel_rfl) (by kernel_rfl) ?_
      refine yS (by kernel_rfl : opAt F36.o5 0 = some (some 4, .assign (.const (.int .i64 0)), none)) rfl rfl (fun w' hS => val_assign rfl) ?_
      refine Sch.nil ?_
      refine run_ret1 (by kernel_rfl) Try.func36 Try.results36 rfl ?_
      exact ⟨eq_int (by unfold cmpI; split <;> (try split) <;> omega), rfl⟩
namespace F12
noncomputable def c0 : Code := bodyOf Try.f12
noncomputable def c1 : Code := cl c0
noncomputable def o0 : Array Oper := rops c1
noncomputable def c2 : Code := cr c0
noncomputable def c3 : Code := cl c2
noncomputable def c4 : Code := cl c3
noncomputable def o1 : Array Oper := rops c4
noncomputable def c5 : Code := cr c3
noncomputable def c6 : Code := cl c5
noncomputable def o2 : Array Oper := rops c6
noncomputable def c7 : Code := cr c5
noncomputable def c8 : Code := cl c7
noncomputable def c9 : Code := cl c8
noncomputable def o3 : Array Oper := rops c9
noncomputable def c10 : Code := cr c8
noncomputable def c11 : Code := cr c7
noncomputable def c12 : Code := cr c2
noncomputable def c13 : Code := cl c12
noncomputable def c14 : Code := cl c13
noncomputable def o4 : Array Oper := rops c14
noncomputable def c15 : Code := cr c13
noncomputable def c16 : Code := cl c15
noncomputable def o5 : Array Oper := rops c16
noncomputable def c17 : Code := cr c15
noncomputable def c18 : Code := cl c17
noncomputable def c19 : Code := cl c18
noncomputable def o6 : Array Oper := rops c19
noncomputable def c20 : Code := cr c18
noncomputable def c21 : Code := cr c17
noncomputable def c22 : Code := cr c12
noncomputable def c23 : Code := cl c22
noncomputable def c24 : Code := cl c23
noncomputable def o7 : Array Oper := rops c24
noncomputable def c25 : Code := cr c23
noncomputable def c26 : Code := cl c25
noncomputable def c27 : Code := cl c26
noncomputable def c28 : Code := cl c27
noncomputable def c29 : Code := cl c28
noncomputable def o8 : Array Oper := rops c29
noncomputable def c30 : Code := cr c28
noncomputable def c31 : Code := cl c30
noncomputable def c32 : Code := cr c30
noncomputable def c33 : Code := cr c27
noncomputable def c34 : Code := cl c33
noncomputable def c35 : Code := cl c34
noncomputable def c36 : Code := cl c35
noncomputable def c37 : Code := cl c36
noncomputable def o10 : Array Oper := rops c37
noncomputable def c38 : Code := cr c36
noncomputable def c39 : Code := cl c38
noncomputable def c40 : Code := cl c39
noncomputable def o11 : Array Oper := rops c40
noncomputable def c41 : Code := cr c39
noncomputable def c42 : Code := cr c38
noncomputable def c43 : Code := cr c35
noncomputable def c44 : Code := cl c43
noncomputable def o12 : Array Oper := rops c44
noncomputable def c45 : Code := cr c43
noncomputable def c46 : Code := cl c45
noncomputable def c47 : Code := cl c46
noncomputable def o13 : Array Oper := rops c47
noncomputable def c48 : Code := cr c46
noncomputable def c49 : Code := cr c45
noncomputable def c50 : Code := cr c33
noncomputable def o9 : Array Oper := rops c50
noncomputable def c51 : Code := cr c22
noncomputable def c52 : Code := cl c51
noncomputable def o14 : Array Oper := rops c52
noncomputable def c53 : Code := cr c51
end F12
theorem refBitsCmp_ok {w₀ : World} {C : Nat → Nat} {p r : Bits} {u v : Value} (hF : Lim w₀ C) (hw : RV w₀ (Mc C) p.words u) (hz : RV w₀ (Mc C) r.words v) : Calls Try.prog 12 #[.agg #[.int .i64 p.len, u], .agg #[.int .i64 r.len, v]] w₀ (Ret fun v' w' => ∃ c : Int, v' = .int .i64 c ∧ (c = 0 ↔ p = r) ∧ Stp [] w₀ C w' C) := by
  have hF0 := hF
  have hT := Stp.refl [2, 3, 4, 5, 6, 7, 8, 9] w₀ (col1 C)
  replace hF := hF.col1
  replace hw : RV w₀ (Mc (col1 C)) p.words u := by rw [Mc_col1]; exact hw
  replace hz : RV w₀ (Mc (col1 C)) r.words v := by rw [Mc_col1]; exact hz
  refine calls_start (c := F12.c0) (N := 55) [.agg #[.int .i64 p.len, u], .agg #[.int .i64 r.len, v]] Try.func12 (by kernel_rfl) (by kernel_rfl) (by kernel_rfl) ?_
  show Run _ _ _ _ [(0, .agg #[.int .i64 p.len, u]), (1, .agg #[.int .i64 r.len, v])] _ _
  refine run_seq (x := F12.c1) (y := F12.c2) (by kernel_rfl) ?_
  refine run_plain (id := 0) (ops := F12.o0) [(0, false), (1, false), (2, true)] (by kernel_rfl) (by kernel_rfl) ?_
  refine aS (by kernel_rfl : opAt F12.o0 0 = some (some 2, .box 33 (.tmp 0), none)) rfl rfl (a_box (cs := [.int .i64 p.len, u]) hF 3 rfl rfl) ?_
  rintro _ w1 ⟨Cw1, bw1, rfl, hs, hx, hF⟩
  refine ⟨trivial, ?_⟩
  replace hT := hT.trans hs (by simp)
  replace hw := hw.st hs (by first | decide | (simp <;> omega))
  replace hz := hz.st hs (by first | decide | (simp <;> omega))
  refine aS (by kernel_rfl : opAt F12.o0 1 = some (some 3, .box 33 (.tmp 1), none)) rfl rfl (a_box (cs := [.int .i64 r.len, v]) hF 4 rfl rfl) ?_
  rintro _ w2 ⟨Cw2, bw2, rfl, hs, hy, hF⟩
  refine ⟨trivial, ?_⟩
  replace hT := hT.trans hs (by simp)
  replace hw := hw.st hs (by first | decide | (simp <;> omega))
  replace hz := hz.st hs (by first | decide | (simp <;> omega))
  replace hx := hx.st hs (by first | decide | (simp <;> omega))
  refine yS (by kernel_rfl : opAt F12.o0 2 = some (some 4, .assign (.const (.int .i64 0)), none)) rfl rfl (fun w' hS => val_assign rfl) ?_
  refine Sch.nil ?_
  refine run_seq (x := F12.c3) (y := F12.c12) (by kernel_rfl) ?_
  refine run_seq (x := F12.c4) (y := F12.c5) (by kernel_rfl) ?_
  refine run_plain (id := 1) (ops := F12.o1) [(0, true), (1, false), (2, true), (3, false), (4, false), (5, true)] (by kernel_rfl) (by kernel_rfl) ?_
  refine yS (by kernel_rfl : opAt F12.o1 0 = some (some 8, .fieldAddr 33 (.tmp 2) 0, none)) rfl rfl (fun w' hS => val_fieldAddr (off := 0) (by kernel_rfl) rfl) ?_
  refine nS (by kernel_rfl : opAt F12.o1 1 = some (some 9, .load 3 (.tmp 8), none)) rfl rfl trivial (val_loadOwn hx.at_ (by kernel_rfl) rfl rfl) ?_
  refine yS (by kernel_rfl : opAt F12.o1 2 = some (some 10, .fieldAddr 33 (.tmp 3) 0, none)) rfl rfl (fun w' hS => val_fieldAddr (off := 0) (by kernel_rfl) rfl) ?_
  refine nS (by kernel_rfl : opAt F12.o1 3 = some (some 11, .load 3 (.tmp 10), none)) rfl rfl trivial (val_loadOwn hy.at_ (by kernel_rfl) rfl rfl) ?_
  refine cS (by kernel_rfl : opAt F12.o1 4 = some (some 12, .call { callee := .value (.func 36), args := #[(.tmp 9), (.tmp 11)], argTypes := #[3, 3] }, none)) rfl rfl (ent Try.call36 rfl) (order_ok _ _ _) ?_
  rintro vw3 w3 ⟨rfl, rfl⟩
  refine ⟨trivial, ?_⟩
  refine yS (by kernel_rfl : opAt F12.o1 5 = some (some 5, .assign (.tmp 12), none)) rfl rfl (fun w' hS => val_assign rfl) ?_
  refine Sch.nil ?_
  refine run_seq (x := F12.c6) (y := F12.c7) (by kernel_rfl) ?_
  refine run_plain (id := 2) (ops := F12.o2) [(0, true), (1, true)] (by kernel_rfl) (by kernel_rfl) ?_
  refine yS (by kernel_rfl : opAt F12.o2 0 = some (some 13, .move (.tmp 5), none)) rfl rfl (fun w' hS => val_move rfl) ?_
  refine yS (by kernel_rfl : opAt F12.o2 1 = some (some 14, .binOp .neq 3 (.tmp 13) (.const (.int .i64 0)) 3, none)) rfl rfl (fun w' hS => val_neq rfl rfl) ?_
  refine Sch.nil ?_
  refine run_if (x := F12.c8) (y := F12.c11) (o := .tmp 14) (by kernel_rfl) rfl (fun h14 => ?_) (fun h14 => ?_)
  · skip
    refine run_seq (x := F12.c9) (y := F12.c10) (by kernel_rfl) ?_
    refine run_plain (id := 3) (ops := F12.o3) [(0, true), (1, true)] (by kernel_rfl) (by kernel_rfl) ?_
    refine yS (by kernel_rfl : opAt F12.o3 0 = some (some 15, .move (.tmp 5), none)) rfl rfl (fun w' hS => val_move rfl) ?_
    refine yS (by kernel_rfl : opAt F12.o3 1 = some (some 4, .assign (.tmp 15), none)) rfl rfl (fun w' hS => val_assign rfl) ?_
    refine Sch.nil ?_
    refine run_ret1 (by kernel_rfl) Try.func12 Try.results12 rfl ?_
    exact ⟨_, rfl, ⟨fun e => absurd e h14, fun e => by subst e; exact absurd (cmpI_zero.2 rfl) h14⟩, hT.out1 (by decide)⟩
  · skip
    have hlen := cmpI_zero.1 (Classical.not_not.1 h14)
    refine run_skip (by kernel_rfl) ?_
    refine run_seq (x := F12.c13) (y := F12.c22) (by kernel_rfl) ?_
    refine run_seq (x := F12.c14) (y := F12.c15) (by kernel_rfl) ?_
    refine run_plain (id := 4) (ops := F12.o4) [(0, true), (1, false), (2, true), (3, true), (4, false), (5, true), (6, false), (7, true)] (by kernel_rfl) (by kernel_rfl) ?_
    refine yS (by kernel_rfl : opAt F12.o4 0 = some (some 16, .fieldAddr 33 (.tmp 2) 1, none)) rfl rfl (fun w' hS => val_fieldAddr (off := 1) (by kernel_rfl) rfl) ?_
    refine nS (by kernel_rfl : opAt F12.o4 1 = some (some 17, .load 31 (.tmp 16), none)) rfl rfl trivial (val_loadOwn hx.at_ (by kernel_rfl) rfl rfl) ?_
    refine yS (by kernel_rfl : opAt F12.o4 2 = some (some 18, .call { callee := .builtin .len, args := #[(.tmp 17)], argTypes := #[31] }, none)) rfl rfl (fun w' hS => hw.lenV rfl Try.underlying31 w' ) ?_
    refine yS (by kernel_rfl : opAt F12.o4 3 = some (some 19, .fieldAddr 33 (.tmp 3) 1, none)) rfl rfl (fun w' hS => val_fieldAddr (off := 1) (by kernel_rfl) rfl) ?_
    refine nS (by kernel_rfl : opAt F12.o4 4 = some (some 20, .load 31 (.tmp 19), none)) rfl rfl trivial (val_loadOwn hy.at_ (by kernel_rfl) rfl rfl) ?_
    refine yS (by kernel_rfl : opAt F12.o4 5 = some (some 21, .call { callee := .builtin .len, args := #[(.tmp 20)], argTypes := #[31] }, none)) rfl rfl (fun w' hS => hz.lenV rfl Try.underlying31 w' ) ?_
    refine cS (by kernel_rfl : opAt F12.o4 6 = some (some 22, .call { callee := .value (.func 36), args := #[(.tmp 18), (.tmp 21)], argTypes := #[3, 3] }, none)) rfl rfl (ent Try.call36 rfl) (order_ok _ _ _) ?_
    rintro vw4 w4 ⟨rfl, rfl⟩
    refine ⟨trivial, ?_⟩
    refine yS (by kernel_rfl : opAt F12.o4 7 = some (some 6, .assign (.tmp 22), none)) rfl rfl (fun w' hS => val_assign rfl) ?_
    refine Sch.nil ?_
    refine run_seq (x := F12.c16) (y := F12.c17) (by kernel_rfl) ?_
    refine run_plain (id := 5) (ops := F12.o5) [(0, true), (1, true)] (by kernel_rfl) (by kernel_rfl) ?_
    refine yS (by kernel_rfl : opAt F12.o5 0 = some (some 23, .move (.tmp 6), none)) rfl rfl (fun w' hS => val_move rfl) ?_
    refine yS (by kernel_rfl : opAt F12.o5 1 = some (some 24, .binOp .neq 3 (.tmp 23) (.const (.int .i64 0)) 3, none)) rfl rfl (fun w' hS => val_neq rfl rfl) ?_
    refine Sch.nil ?_
    refine run_if (x := F12.c18) (y := F12.c21) (o := .tmp 24) (by kernel_rfl) rfl (fun h24 => ?_) (fun h24 => ?_)
    · skip
      refine run_seq (x := F12.c19) (y := F12.c20) (by kernel_rfl) ?_
      refine run_plain (id := 6) (ops := F12.o6) [(0, true), (1, true)] (by kernel_rfl) (by kernel_rfl) ?_
      refine yS (by kernel_rfl : opAt F12.o6 0 = some (some 25, .move (.tmp 6), none)) rfl rfl (fun w' hS => val_move rfl) ?_
      refine yS (by kernel_rfl : opAt F12.o6 1 = some (some 4, .assign (.tmp 25), none)) rfl rfl (fun w' hS => val_assign rfl) ?_
      refine Sch.nil ?_
      refine run_ret1 (by kernel_rfl) Try.func12 Try.results12 rfl ?_
      exact ⟨_, rfl, ⟨fun e => absurd e h24, fun e => by subst e; exact absurd (cmpI_zero.2 rfl) h24⟩, hT.out1 (by decide)⟩
    · skip
      have hll : p.words.length = r.words.length := by have := cmpI_zero.1 (Classical.not_not.1 h24); omega
      refine run_skip (by kernel_rfl) ?_
      refine run_seq (x := F12.c23) (y := F12.c51) (by kernel_rfl) ?_
      refine run_seq (x := F12.c24) (y := F12.c25) (by kernel_rfl) ?_
      refine run_plain (id := 7) (ops := F12.o7) [(0, true)] (by kernel_rfl) (by kernel_rfl) ?_
      refine yS (by kernel_rfl : opAt F12.o7 0 = some (some 7, .assign (.const (.int .i64 0)), none)) rfl rfl (fun w' hS => val_assign rfl) ?_
      refine Sch.nil ?_
      refine run_block (x := F12.c26) (id := 0) (by kernel_rfl) ?_
      
      refine run_loop (ι := Nat × (Nat → Nat)) (I := fun x w => x.1 ≤ p.words.length ∧ (∀ q (h1 : q < p.words.length) (h2 : q < r.words.length), q < x.1 → p.words[q] = r.words[q]) ∧ Lim w x.2 ∧ Stp [2, 3, 4, 5, 6, 7, 8, 9] w₀ (col1 C) w x.2 ∧ OwnB w x.2 3 bw1 (.cells [.int .i64 p.len, u].toArray 33) ∧ OwnB w x.2 4 bw2 (.cells [.int .i64 r.len, v].toArray 33) ∧ RV w (Mc x.2) p.words u ∧ RV w (Mc x.2) r.words v) (e := fun x => [(2, .pointer (some ⟨bw1, 0, none⟩)), (3, .pointer (some ⟨bw2, 0, none⟩)), (7, .int .i64 x.1)]) (m := fun x => p.words.length - x.1) (x₀ := (0, Cw2)) (body := F12.c27) (by kernel_rfl) (sub_cons 2 rfl rfl (sub_cons 3 rfl rfl (sub_cons 7 rfl rfl (sub_nil _)))) ?_ ?_
      · exact ⟨Nat.zero_le _, (fun q _ _ hq => by first | omega | (simp only at hq; omega)), hF, hT, hx, hy, hw, hz⟩
      intro ⟨i, C1⟩ w5 hI next
      obtain ⟨hi, h0, hF, hT, hx, hy, hw, hz⟩ := hI
      try simp only at hi h0 hF hT hx hy hw hz
      have next1 := next
      clear next
      show Run _ _ _ _ [(2, .pointer (some ⟨bw1, 0, none⟩)), (3, .pointer (some ⟨bw2, 0, none⟩)), (7, .int .i64 i)] _ _
      have hle := hw.le
      refine run_seq (x := F12.c28) (y := F12.c33) (by kernel_rfl) ?_
      refine run_seq (x := F12.c29) (y := F12.c30) (by kernel_rfl) ?_
      refine run_plain (id := 8) (ops := F12.o8) [(0, true), (1, true), (2, false), (3, true), (4, true)] (by kernel_rfl) (by kernel_rfl) ?_
      refine yS (by kernel_rfl : opAt F12.o8 0 = some (some 26, .move (.tmp 7), none)) rfl rfl (fun w' hS => val_move rfl) ?_
      refine yS (by kernel_rfl : opAt F12.o8 1 = some (some 27, .fieldAddr 33 (.tmp 2) 1, none)) rfl rfl (fun w' hS => val_fieldAddr (off := 1) (by kernel_rfl) rfl) ?_
      refine nS (by kernel_rfl : opAt F12.o8 2 = some (some 28, .load 31 (.tmp 27), none)) rfl rfl trivial (val_loadOwn hx.at_ (by kernel_rfl) rfl rfl) ?_
      refine yS (by kernel_rfl : opAt F12.o8 3 = some (some 29, .call { callee := .builtin .len, args := #[(.tmp 28)], argTypes := #[31] }, none)) rfl rfl (fun w' hS => hw.lenV rfl Try.underlying31 w' ) ?_
      refine yS (by kernel_rfl : opAt F12.o8 4 = some (some 30, .binOp .lss 3 (.tmp 26) (.tmp 29) 3, none)) rfl rfl (fun w' hS => val_lss rfl rfl) ?_
      refine Sch.nil ?_
      refine run_if (x := F12.c31) (y := F12.c32) (o := .tmp 30) (by kernel_rfl) rfl (fun h30 => ?_) (fun h30 => ?_)
      · skip
        have hil : i < p.words.length := by omega
        have hil2 : i < r.words.length := by omega
        refine run_skip (by kernel_rfl) ?_
        refine run_seq (x := F12.c34) (y := F12.c50) (by kernel_rfl) ?_
        refine run_block (x := F12.c35) (id := 1) (by kernel_rfl) ?_
        refine run_seq (x := F12.c36) (y := F12.c43) (by kernel_rfl) ?_
        refine run_seq (x := F12.c37) (y := F12.c38) (by kernel_rfl) ?_
        refine run_draw (id := 10) (ops := F12.o10) [] (C1) [(0, true), (1, true), (2, true), (3, true), (4, true), (5, true), (6, true), (7, true), (8, true), (9, true), (10, true)] Try_mixed (by kernel_rfl) (by kernel_rfl) (by kernel_rfl) ?_
        intro w6 hs
        replace hF := hF.st hs
        replace hT := hT.trans hs (by simp)
        replace hx := hx.st hs (by first | decide | (simp <;> omega))
        replace hy := hy.st hs (by first | decide | (simp <;> omega))
        replace hw := hw.st hs (by first | decide | (simp <;> omega))
        replace hz := hz.st hs (by first | decide | (simp <;> omega))
        refine yS (by kernel_rfl : opAt F12.o10 0 = some (some 33, .fieldAddr 33 (.tmp 2) 1, none)) rfl rfl (fun w' hS => val_fieldAddr (off := 1) (by kernel_rfl) rfl) ?_
        refine yS (by kernel_rfl : opAt F12.o10 1 = some (some 34, .load 31 (.tmp 33), none)) rfl rfl (fun w' hS => val_loadOwn (hx.stay hS (by decide)) (by kernel_rfl) rfl rfl) ?_
        refine yS (by kernel_rfl : opAt F12.o10 2 = some (some 35, .move (.tmp 7), none)) rfl rfl (fun w' hS => val_move rfl) ?_
        refine iS (e := 59) (by kernel_rfl : opAt F12.o10 3 = some (some 36, .indexAddr 31 (.tmp 34) (.tmp 35), none)) rfl rfl hw rfl (by kernel_rfl) rfl (by omega) (by omega) ?_
        intro b36 o36 h36
        try simp only [Int.toNat_natCast] at h36
        refine lS (by kernel_rfl : opAt F12.o10 4 = some (some 37, .load 59 (.tmp 36), none)) rfl rfl (fun w' hS => h36.stay hS (by first | decide | (simp <;> omega))) h36 (by kernel_rfl) rfl rfl ?_
        intro v37 g37
        obtain rfl := rv_num.1 g37
        refine yS (by kernel_rfl : opAt F12.o10 5 = some (some 38, .fieldAddr 33 (.tmp 3) 1, none)) rfl rfl (fun w' hS => val_fieldAddr (off := 1) (by kernel_rfl) rfl) ?_
        refine yS (by kernel_rfl : opAt F12.o10 6 = some (some 39, .load 31 (.tmp 38), none)) rfl rfl (fun w' hS => val_loadOwn (hy.stay hS (by decide)) (by kernel_rfl) rfl rfl) ?_
        refine yS (by kernel_rfl : opAt F12.o10 7 = some (some 40, .move (.tmp 7), none)) rfl rfl (fun w' hS => val_move rfl) ?_
        refine iS (e := 59) (by kernel_rfl : opAt F12.o10 8 = some (some 41, .indexAddr 31 (.tmp 39) (.tmp 40), none)) rfl rfl hz rfl (by kernel_rfl) rfl (by omega) (by omega) ?_
        intro b41 o41 h41
        try simp only [Int.toNat_natCast] at h41
        refine lS (by kernel_rfl : opAt F12.o10 9 = some (some 42, .load 59 (.tmp 41), none)) rfl rfl (fun w' hS => h41.stay hS (by first | decide | (simp <;> omega))) h41 (by kernel_rfl) rfl rfl ?_
        intro v42 g42
        obtain rfl := rv_num.1 g42
        refine yS (by kernel_rfl : opAt F12.o10 10 = some (some 43, .binOp .lss 59 (.tmp 37) (.tmp 42) 59, none)) rfl rfl (fun w' hS => val_lss rfl rfl) ?_
        refine Sch.nil ?_
        refine run_if (x := F12.c39) (y := F12.c42) (o := .tmp 43) (by kernel_rfl) rfl (fun h43 => ?_) (fun h43 => ?_)
        · skip
          refine run_seq (x := F12.c40) (y := F12.c41) (by kernel_rfl) ?_
          refine run_plain (id := 11) (ops := F12.o11) [(0, true)] (by kernel_rfl) (by kernel_rfl) ?_
          refine yS (by kernel_rfl : opAt F12.o11 0 = some (some 4, .assign (.const (.int .i64 (-1))), none)) rfl rfl (fun w' hS => val_assign rfl) ?_
          refine Sch.nil ?_
          refine run_ret1 (by kernel_rfl) Try.func12 Try.results12 rfl ?_
          exact ⟨_, rfl, ⟨fun e => absurd e (by decide), fun e => by subst e; omega⟩, hT.out1 (by decide)⟩
        · skip
          refine run_skip (by kernel_rfl) ?_
          refine run_seq (x := F12.c44) (y := F12.c45) (by kernel_rfl) ?_
          refine run_draw (id := 12) (ops := F12.o12) [] (C1) [(0, true), (1, true), (2, true), (3, true), (4, true), (5, true), (6, true), (7, true), (8, true), (9, true), (10, true)] Try_mixed (by kernel_rfl) (by kernel_rfl) (by kernel_rfl) ?_
          intro w7 hs
          replace hF := hF.st hs
          replace hT := hT.trans hs (by simp)
          replace hx := hx.st hs (by first | decide | (simp <;> omega))
          replace hy := hy.st hs (by first | decide | (simp <;> omega))
          replace hw := hw.st hs (by first | decide | (simp <;> omega))
          replace hz := hz.st hs (by first | decide | (simp <;> omega))
          replace h36 := h36.st hs (by first | decide | (simp <;> omega))
          replace h41 := h41.st hs (by first | decide | (simp <;> omega))
          refine yS (by kernel_rfl : opAt F12.o12 0 = some (some 44, .fieldAddr 33 (.tmp 2) 1, none)) rfl rfl (fun w' hS => val_fieldAddr (off := 1) (by kernel_rfl) rfl) ?_
          refine yS (by kernel_rfl : opAt F12.o12 1 = some (some 45, .load 31 (.tmp 44), none)) rfl rfl (fun w' hS => val_loadOwn (hx.stay hS (by decide)) (by kernel_rfl) rfl rfl) ?_
          refine yS (by kernel_rfl : opAt F12.o12 2 = some (some 46, .move (.tmp 7), none)) rfl rfl (fun w' hS => val_move rfl) ?_
          refine iS (e := 59) (by kernel_rfl : opAt F12.o12 3 = some (some 47, .indexAddr 31 (.tmp 45) (.tmp 46), none)) rfl rfl hw rfl (by kernel_rfl) rfl (by omega) (by omega) ?_
          intro b47 o47 h47
          try simp only [Int.toNat_natCast] at h47
          refine lS (by kernel_rfl : opAt F12.o12 4 = some (some 48, .load 59 (.tmp 47), none)) rfl rfl (fun w' hS => h47.stay hS (by first | decide | (simp <;> omega))) h47 (by kernel_rfl) rfl rfl ?_
          intro v48 g48
          obtain rfl := rv_num.1 g48
          refine yS (by kernel_rfl : opAt F12.o12 5 = some (some 49, .fieldAddr 33 (.tmp 3) 1, none)) rfl rfl (fun w' hS => val_fieldAddr (off := 1) (by kernel_rfl) rfl) ?_
          refine yS (by kernel_rfl : opAt F12.o12 6 = some (some 50, .load 31 (.tmp 49), none)) rfl rfl (fun w' hS => val_loadOwn (hy.stay hS (by decide)) (by kernel_rfl) rfl rfl) ?_
          refine yS (by kernel_rfl : opAt F12.o12 7 = some (some 51, .move (.tmp 7), none)) rfl rfl (fun w' hS => val_move rfl) ?_
          refine iS (e := 59) (by kernel_rfl : opAt F12.o12 8 = some (some 52, .indexAddr 31 (.tmp 50) (.tmp 51), none)) rfl rfl hz rfl (by kernel_rfl) rfl (by omega) (by omega) ?_
          intro b52 o52 h52
          try simp only [Int.toNat_natCast] at h52
          refine lS (by kernel_rfl : opAt F12.o12 9 = some (some 53, .load 59 (.tmp 52), none)) rfl rfl (fun w' hS => h52.stay hS (by first | decide | (simp <;> omega))) h52 (by kernel_rfl) rfl rfl ?_
          intro v53 g53
          obtain rfl := rv_num.1 g53
          refine yS (by kernel_rfl : opAt F12.o12 10 = some (some 54, .binOp .gtr 59 (.tmp 48) (.tmp 53) 59, none)) rfl rfl (fun w' hS => val_gtr rfl rfl) ?_
          refine Sch.nil ?_
          refine run_if (x := F12.c46) (y := F12.c49) (o := .tmp 54) (by kernel_rfl) rfl (fun h54 => ?_) (fun h54 => ?_)
          · skip
            refine run_seq (x := F12.c47) (y := F12.c48) (by kernel_rfl) ?_
            refine run_plain (id := 13) (ops := F12.o13) [(0, true)] (by kernel_rfl) (by kernel_rfl) ?_
            refine yS (by kernel_rfl : opAt F12.o13 0 = some (some 4, .assign (.const (.int .i64 1)), none)) rfl rfl (fun w' hS => val_assign rfl) ?_
            refine Sch.nil ?_
            refine run_ret1 (by kernel_rfl) Try.func12 Try.results12 rfl ?_
            exact ⟨_, rfl, ⟨fun e => absurd e (by decide), fun e => by subst e; omega⟩, hT.out1 (by decide)⟩
          · skip
            refine run_skip (by kernel_rfl) ?_
            refine run_inBlock ?_
            refine run_plain (id := 9) (ops := F12.o9) [(0, true), (1, true), (2, true)] (by kernel_rfl) (by kernel_rfl) ?_
            refine yS (by kernel_rfl : opAt F12.o9 0 = some (some 31, .move (.tmp 7), none)) rfl rfl (fun w' hS => val_move rfl) ?_
            refine yS (by kernel_rfl : opAt F12.o9 1 = some (some 32, .binOp .add 3 (.tmp 31) (.const (.int .i64 1)) 3, none)) rfl rfl (fun w' hS => val_addi rfl rfl (by omega) (by omega)) ?_
            refine yS (by kernel_rfl : opAt F12.o9 2 = some (some 7, .assign (.tmp 32), none)) rfl rfl (fun w' hS => val_assign rfl) ?_
            refine Sch.nil ?_
            refine kp (sub_cons 2 rfl rfl (sub_cons 3 rfl rfl (sub_cons 7 rfl (eq_int (by simp)) (sub_nil _)))) (next1 (i + 1, C1) _ ⟨(by first | omega | (simp only; omega)), (fun q h1 h2 hq => by
                try simp only at hq
                by_cases e : q = i
                · subst e; exact Num.ext_ (by omega)
                · exact h0 q h1 h2 (by omega)), hF, hT, hx, hy, hw, hz⟩ (by first | omega | (simp only; omega)))
      · skip
        have hil : i = p.words.length := by omega
        refine run_exit (id := 0) (by kernel_rfl) rfl ?_
        refine run_seq (x := F12.c52) (y := F12.c53) (by kernel_rfl) ?_
        refine run_plain (id := 14) (ops := F12.o14) [(0, true)] (by kernel_rfl) (by kernel_rfl) ?_
        refine yS (by kernel_rfl : opAt F12.o14 0 = some (some 4, .assign (.const (.int .i64 0)), none)) rfl rfl (fun w' hS => val_assign rfl) ?_
        refine Sch.nil ?_
        refine run_ret1 (by kernel_rfl) Try.func12 Try.results12 rfl ?_
        exact ⟨_, rfl, ⟨fun _ => bits_ext hlen (List.ext_getElem hll (fun q h1 h2 => h0 q h1 h2 (by omega))), fun _ => rfl⟩, hT.out1 (by decide)⟩
namespace F28
noncomputable def c0 : Code := bodyOf Try.f28
noncomputable def c1 : Code := cl c0
noncomputable def o0 : Array Oper := rops c1
noncomputable def c2 : Code := cr c0
noncomputable def c3 : Code := cl c2
noncomputable def o1 : Array Oper := rops c3
noncomputable def c4 : Code := cr c2
end F28
theorem copy_ok {w₀ : World} {C : Nat → Nat} {x : Bits} {u : Value} (hF : Lim w₀ C) (hw : RV w₀ (Mc C) x.words u) (hlen : x.words.length ≤ 1000000) : Calls Try.prog 28 #[.agg #[.int .i64 x.len, u]] w₀ (Ret fun v w' => ∃ u', v = .agg #[.int .i64 x.len, u'] ∧ Stp [] w₀ C w' C ∧ RV w' (Mc C) x.words u') := by
  have hF0 := hF
  have hT := Stp.refl [2, 3, 4, 5, 6, 7, 8, 9] w₀ (col1 C)
  replace hF := hF.col1
  replace hw : RV w₀ (Mc (col1 C)) x.words u := by rw [Mc_col1]; exact hw
  refine calls_start (c := F28.c0) (N := 9) [.agg #[.int .i64 x.len, u]] Try.func28 (by kernel_rfl) (by kernel_rfl) (by kernel_rfl) ?_
  show Run _ _ _ _ [(0, .agg #[.int .i64 x.len, u])] _ _
  refine run_seq (x := F28.c1) (y := F28.c2) (by kernel_rfl) ?_
  refine run_plain (id := 0) (ops := F28.o0) [(0, false), (1, false)] (by kernel_rfl) (by kernel_rfl) ?_
  refine aS (by kernel_rfl : opAt F28.o0 0 = some (some 1, .box 33 (.tmp 0), none)) rfl rfl (a_box (cs := [.int .i64 x.len, u]) hF 3 rfl rfl) ?_
  rintro _ w1 ⟨Cw1, bw1, rfl, hs, hx, hF⟩
  refine ⟨trivial, ?_⟩
  replace hT := hT.trans hs (by simp)
  replace hw := hw.st hs (by first | decide | (simp <;> omega))
  refine aS (by kernel_rfl : opAt F28.o0 1 = some (some 2, .alloc 33, none)) rfl rfl (a_alloc (cs := [.int .i64 0, .slice none 0 0]) hF 4 (by kernel_rfl)) ?_
  rintro _ w2 ⟨Cw2, bw2, rfl, hs, hy, hF⟩
  refine ⟨trivial, ?_⟩
  replace hT := hT.trans hs (by simp)
  replace hw := hw.st hs (by first | decide | (simp <;> omega))
  replace hx := hx.st hs (by first | decide | (simp <;> omega))
  refine Sch.nil ?_
  refine run_seq (x := F28.c3) (y := F28.c4) (by kernel_rfl) ?_
  refine run_draw (id := 1) (ops := F28.o1) [4, 5] (Cw2) [(0, true), (1, true), (2, true), (3, true), (4, false), (5, true), (6, false)] Try_mixed (by kernel_rfl) (by kernel_rfl) (by kernel_rfl) ?_
  intro w3 hs
  replace hF := hF.st hs
  replace hT := hT.trans hs (by simp)
  replace hw := hw.st hs (by first | decide | (simp <;> omega))
  replace hx := hx.st hs (by first | decide | (simp <;> omega))
  replace hy := hy.st hs (by first | decide | (simp <;> omega))
  have hR := Stp.refl [4, 5] w3 (Cw2)
  refine yS (by kernel_rfl : opAt F28.o1 0 = some (some 3, .fieldAddr 33 (.tmp 1) 0, none)) rfl rfl (fun w' hS => val_fieldAddr (off := 0) (by kernel_rfl) rfl) ?_
  refine yS (by kernel_rfl : opAt F28.o1 1 = some (some 4, .load 3 (.tmp 3), none)) rfl rfl (fun w' hS => val_loadOwn (hx.stay hS (by decide)) (by kernel_rfl) rfl rfl) ?_
  refine yS (by kernel_rfl : opAt F28.o1 2 = some (some 5, .fieldAddr 33 (.tmp 1) 1, none)) rfl rfl (fun w' hS => val_fieldAddr (off := 1) (by kernel_rfl) rfl) ?_
  refine yS (by kernel_rfl : opAt F28.o1 3 = some (some 6, .load 31 (.tmp 5), none)) rfl rfl (fun w' hS => val_loadOwn (hx.stay hS (by decide)) (by kernel_rfl) rfl rfl) ?_
  refine aS (by kernel_rfl : opAt F28.o1 4 = some (some 7, .call { callee := .builtin .append, args := #[(.const (.slice none 0 0)), (.tmp 6)], argTypes := #[31, 31] }, none)) rfl rfl (a_append (e := 59) (bytes := 8) hF (by decide) rfl rfl (by kernel_rfl) (by decide) (OwnL.nil (α := U64) (j := 5)) hw (by simp only [List.length_nil]; omega) (by simp only [List.length_nil]; omega)) ?_
  rintro v7 w4 ⟨Cw4, hs, hn, hF⟩
  refine ⟨(hR.trans hs (by simp)).ext, ?_⟩
  replace hT := hT.trans hs (by simp)
  replace hw := hw.st hs (by first | decide | (simp <;> omega))
  replace hx := hx.st hs (by first | decide | (simp <;> omega))
  replace hy := hy.st hs (by first | decide | (simp <;> omega))
  replace hR := hR.trans hs (by simp)
  refine yS (by kernel_rfl : opAt F28.o1 5 = some (some 8, .build 33 #[(0, (.tmp 4)), (1, (.tmp 7))], none)) rfl rfl (fun w' hS => val_build (zs := [.int .i64 0, .slice none 0 0]) (ps := [(0, 1), (1, 1)]) (qs := [(0, [.int .i64 x.len]), (1, [v7])]) (cs := [.int .i64 x.len, v7]) (by kernel_rfl) (by kernel_rfl) (by exact ⟨rfl, ⟨_, rfl, rfl⟩, rfl, ⟨_, rfl, hn.one.1⟩, trivial⟩) rfl) ?_
  refine Sch.free rfl ?_
  refine aN (by kernel_rfl : opAt F28.o1 6 = some (none, .store 33 (.tmp 2) (.tmp 8), none)) rfl (a_storeAll (vs := [.int .i64 x.len, v7]) (n := 2) rfl rfl (by kernel_rfl) rfl rfl (by intro u hu; simp only [List.mem_cons, List.not_mem_nil, or_false] at hu; rcases hu with rfl | rfl <;> first | rfl | exact hn.one.2) hy rfl) ?_
  rintro _ w5 ⟨rfl, hs, hy⟩
  refine ⟨trivial, ?_⟩
  replace hF := hF.st hs
  replace hT := hT.trans hs (by simp)
  replace hw := hw.st hs (by first | decide | (simp <;> omega))
  replace hx := hx.st hs (by first | decide | (simp <;> omega))
  replace hn := hn.st hs (by first | decide | (simp <;> omega)) (by first | decide | (simp <;> omega))
  refine Sch.nil ?_
  simp only [List.nil_append] at hn
  refine run_retC1 (by kernel_rfl) Try.func28 Try.results28 rfl hy.at_ (by kernel_rfl) (by kernel_rfl) rfl ?_
  exact ⟨_, rfl, hT.out1 (by decide), hn.out hT hF0 (Mc_col1 C) (fun b _ => col1_lt C (by decide) b) (by omega)⟩
end Go.Proofs.Ytbdlkdiadplmcaa
