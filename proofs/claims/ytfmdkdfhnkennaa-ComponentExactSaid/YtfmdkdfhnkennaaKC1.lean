/- Steps through functions of the program. -/
import Derived.Test.YtfmdkdfhnkennaaKD3
import Derived.Test.YtfmdkdfhnkennaaKComp
import Derived.Test.YtfmdkdfhnkennaaKA
import Derived.Test.YtfmdkdfhnkennaaKB
import Derived.Test.YtfmdkdfhnkennaaKSort
import Derived.Test.YtfmdkdfhnkennaaShelf
set_option linter.unusedVariables false
set_option linter.unusedSimpArgs false
set_option maxRecDepth 100000
set_option maxHeartbeats 400000
namespace Go.Proofs.Ytfmdkdfhnkennaa
open Go.K Go.K.Rep

namespace F47
noncomputable def c0 : Code := bodyOf Try.f47
noncomputable def c1 : Code := cl c0
noncomputable def o0 : Array Oper := rops c1
noncomputable def c2 : Code := cr c0
noncomputable def c3 : Code := cl c2
noncomputable def o1 : Array Oper := rops c3
noncomputable def c4 : Code := cr c2
noncomputable def c5 : Code := cl c4
noncomputable def c6 : Code := cl c5
noncomputable def o2 : Array Oper := rops c6
noncomputable def c7 : Code := cr c5
noncomputable def c8 : Code := cl c7
noncomputable def c9 : Code := cl c8
noncomputable def c10 : Code := cl c9
noncomputable def o3 : Array Oper := rops c10
noncomputable def c11 : Code := cr c9
noncomputable def c12 : Code := cl c11
noncomputable def c13 : Code := cl c12
noncomputable def c14 : Code := cr c12
noncomputable def c15 : Code := cr c11
noncomputable def c16 : Code := cl c15
noncomputable def c17 : Code := cl c16
noncomputable def c18 : Code := cl c17
noncomputable def o4 : Array Oper := rops c18
noncomputable def c19 : Code := cr c17
noncomputable def c20 : Code := cl c19
noncomputable def o5 : Array Oper := rops c20
noncomputable def c21 : Code := cr c19
noncomputable def c22 : Code := cl c21
noncomputable def c23 : Code := cl c22
noncomputable def o6 : Array Oper := rops c23
noncomputable def c24 : Code := cr c22
noncomputable def c25 : Code := cr c21
noncomputable def c26 : Code := cr c15
noncomputable def o7 : Array Oper := rops c26
noncomputable def c27 : Code := cr c4
noncomputable def c28 : Code := cl c27
noncomputable def o8 : Array Oper := rops c28
noncomputable def c29 : Code := cr c27
end F47
/-- 'cmp.Or'. -/
theorem orI_ok {w₀ : World} {M : Nat → Prop} {l : List Int} {vl : Value} (hl : RV w₀ M l vl) : Calls Try.prog 47 #[vl] w₀ (Ret fun v w' => v = .int .i64 (orL l) ∧ w' = w₀) := by
  refine calls_start (c := F47.c0) (N := 18) [vl] Try.func47 (by kernel_rfl) (by kernel_rfl) (by kernel_rfl) ?_
  show Run _ _ _ _ [(0, vl)] _ _
  refine run_seq (x := F47.c1) (y := F47.c2) (by kernel_rfl) ?_
  refine run_plain (id := 0) (ops := F47.o0) [(0, true)] (by kernel_rfl) (by kernel_rfl) ?_
  refine yS (by kernel_rfl : opAt F47.o0 0 = some (some 2, .assign (.const (.int .i64 0)), none)) rfl rfl (fun w' hS => val_assign rfl) ?_
  refine Sch.nil ?_
  refine run_seq (x := F47.c3) (y := F47.c4) (by kernel_rfl) ?_
  refine run_plain (id := 1) (ops := F47.o1) [(0, true)] (by kernel_rfl) (by kernel_rfl) ?_
  refine yS (by kernel_rfl : opAt F47.o1 0 = some (some 3, .assign (.const (.int .i64 0)), none)) rfl rfl (fun w' hS => val_assign rfl) ?_
  refine Sch.nil ?_
  refine run_seq (x := F47.c5) (y := F47.c27) (by kernel_rfl) ?_
  refine run_seq (x := F47.c6) (y := F47.c7) (by kernel_rfl) ?_
  refine run_plain (id := 2) (ops := F47.o2) [(0, true), (1, true), (2, true)] (by kernel_rfl) (by kernel_rfl) ?_
  refine yS (by kernel_rfl : opAt F47.o2 0 = some (some 6, .move (.tmp 0), none)) rfl rfl (fun w' hS => val_move rfl) ?_
  refine yS (by kernel_rfl : opAt F47.o2 1 = some (some 7, .call { callee := .builtin .len, args := #[(.tmp 6)], argTypes := #[22] }, none)) rfl rfl (fun w' hS => hl.lenV rfl Try.underlying22 w' ) ?_
  refine yS (by kernel_rfl : opAt F47.o2 2 = some (some 8, .move (.const (.int .i64 0)), none)) rfl rfl (fun w' hS => val_move rfl) ?_
  refine Sch.nil ?_
  refine run_block (x := F47.c8) (id := 0) (by kernel_rfl) ?_
  refine run_loop (ι := Nat) (I := fun x w => x ≤ l.length ∧ w = w₀ ∧ orL (l.drop x) = orL l) (e := fun x => [(3, .int .i64 0), (6, vl), (7, .int .i64 l.length), (8, .int .i64 x)]) (m := fun x => l.length - x) (x₀ := 0) (body := F47.c9) (by kernel_rfl) (sub_cons 3 rfl rfl (sub_cons 6 rfl rfl (sub_cons 7 rfl rfl (sub_cons 8 rfl rfl (sub_nil _))))) ?_ ?_
  · exact ⟨Nat.zero_le _, rfl, rfl⟩
  intro i w1 hI next
  obtain ⟨hi, rfl, ho⟩ := hI
  have hll := hl.le
  refine run_seq (x := F47.c10) (y := F47.c11) (by kernel_rfl) ?_
  refine run_plain (id := 3) (ops := F47.o3) [(0, true)] (by kernel_rfl) (by kernel_rfl) ?_
  refine yS (by kernel_rfl : opAt F47.o3 0 = some (some 9, .binOp .lss 3 (.tmp 8) (.tmp 7) 3, none)) rfl rfl (fun w' hS => val_lss rfl rfl) ?_
  refine Sch.nil ?_
  refine run_seq (x := F47.c12) (y := F47.c15) (by kernel_rfl) ?_
  refine run_if (x := F47.c13) (y := F47.c14) (o := .tmp 9) (by kernel_rfl) rfl (fun h9 => ?_) (fun h9 => ?_)
  · skip
    have hil : i < l.length := by omega
    rw [orL_drop hil] at ho
    refine run_skip (by kernel_rfl) ?_
    refine run_seq (x := F47.c16) (y := F47.c26) (by kernel_rfl) ?_
    refine run_block (x := F47.c17) (id := 1) (by kernel_rfl) ?_
    refine run_seq (x := F47.c18) (y := F47.c19) (by kernel_rfl) ?_
    refine run_plain (id := 4) (ops := F47.o4) [(0, true), (1, false), (2, true)] (by kernel_rfl) (by kernel_rfl) ?_
    refine iS (e := 3) (by kernel_rfl : opAt F47.o4 0 = some (some 10, .indexAddr 22 (.tmp 6) (.tmp 8), none)) rfl rfl hl rfl (by kernel_rfl) rfl (by omega) (by omega) ?_
    intro b10 o10 h10
    try simp only [Int.toNat_natCast] at h10
    refine lN (by kernel_rfl : opAt F47.o4 1 = some (some 11, .load 3 (.tmp 10), none)) rfl rfl trivial h10 (by kernel_rfl) rfl rfl ?_
    intro v11 g11
    first | (obtain rfl := rv_nat.1 g11) | (obtain rfl := rv_int.1 g11)
    refine yS (by kernel_rfl : opAt F47.o4 2 = some (some 5, .assign (.tmp 11), none)) rfl rfl (fun w' hS => val_assign rfl) ?_
    refine Sch.nil ?_
    refine run_seq (x := F47.c20) (y := F47.c21) (by kernel_rfl) ?_
    refine run_plain (id := 5) (ops := F47.o5) [(0, true), (1, true), (2, true)] (by kernel_rfl) (by kernel_rfl) ?_
    refine yS (by kernel_rfl : opAt F47.o5 0 = some (some 12, .move (.tmp 5), none)) rfl rfl (fun w' hS => val_move rfl) ?_
    refine yS (by kernel_rfl : opAt F47.o5 1 = some (some 13, .move (.tmp 3), none)) rfl rfl (fun w' hS => val_move rfl) ?_
    refine yS (by kernel_rfl : opAt F47.o5 2 = some (some 14, .binOp .neq 3 (.tmp 12) (.tmp 13) 3, none)) rfl rfl (fun w' hS => val_neq rfl rfl) ?_
    refine Sch.nil ?_
    refine run_if (x := F47.c22) (y := F47.c25) (o := .tmp 14) (by kernel_rfl) rfl (fun h14 => ?_) (fun h14 => ?_)
    · skip
      rw [if_neg h14] at ho
      refine run_seq (x := F47.c23) (y := F47.c24) (by kernel_rfl) ?_
      refine run_plain (id := 6) (ops := F47.o6) [(0, true), (1, true)] (by kernel_rfl) (by kernel_rfl) ?_
      refine yS (by kernel_rfl : opAt F47.o6 0 = some (some 15, .move (.tmp 5), none)) rfl rfl (fun w' hS => val_move rfl) ?_
      refine yS (by kernel_rfl : opAt F47.o6 1 = some (some 2, .assign (.tmp 15), none)) rfl rfl (fun w' hS => val_assign rfl) ?_
      refine Sch.nil ?_
      refine run_ret1 (by kernel_rfl) Try.func47 Try.results47 rfl ?_
      exact ⟨by rw [ho], rfl⟩
    · skip
      have h14 : l[i] = 0 := by simpa using h14
      rw [if_pos h14] at ho
      refine run_skip (by kernel_rfl) ?_
      refine run_inBlock ?_
      refine run_plain (id := 7) (ops := F47.o7) [(0, true), (1, true)] (by kernel_rfl) (by kernel_rfl) ?_
      refine yS (by kernel_rfl : opAt F47.o7 0 = some (some 16, .binOp .add 3 (.tmp 8) (.const (.int .i64 1)) 3, none)) rfl rfl (fun w' hS => val_addi rfl rfl (by omega) (by omega)) ?_
      refine yS (by kernel_rfl : opAt F47.o7 1 = some (some 8, .move (.tmp 16), none)) rfl rfl (fun w' hS => val_move rfl) ?_
      refine Sch.nil ?_
      refine kp ?_ (next (i + 1) _ ⟨by omega, rfl, ho⟩ (by omega))
      exact sub_cons 3 rfl rfl (sub_cons 6 rfl rfl (sub_cons 7 rfl rfl (sub_cons 8 rfl (eq_int (by simp)) (sub_nil _))))
  · skip
    have hil : i = l.length := by omega
    refine run_exit (id := 0) (by kernel_rfl) rfl ?_
    refine run_seq (x := F47.c28) (y := F47.c29) (by kernel_rfl) ?_
    refine run_plain (id := 8) (ops := F47.o8) [(0, true), (1, true)] (by kernel_rfl) (by kernel_rfl) ?_
    refine yS (by kernel_rfl : opAt F47.o8 0 = some (some 17, .move (.tmp 3), none)) rfl rfl (fun w' hS => val_move rfl) ?_
    refine yS (by kernel_rfl : opAt F47.o8 1 = some (some 2, .assign (.tmp 17), none)) rfl rfl (fun w' hS => val_assign rfl) ?_
    refine Sch.nil ?_
    refine run_ret1 (by kernel_rfl) Try.func47 Try.results47 rfl ?_
    subst hil
    rw [List.drop_length] at ho
    exact ⟨by rw [← ho]; rfl, rfl⟩
namespace F62
noncomputable def c0 : Code := bodyOf Try.f62
noncomputable def c1 : Code := cl c0
noncomputable def o0 : Array Oper := rops c1
noncomputable def c2 : Code := cr c0
noncomputable def c3 : Code := cl c2
noncomputable def o1 : Array Oper := rops c3
noncomputable def c4 : Code := cr c2
end F62
theorem isNaN_ok (x : Int) (w : World) : Calls Try.prog 62 #[.int .i64 x] w (Ret fun v w' => v = .bool false ∧ w' = w) := by
  refine calls_start (c := F62.c0) (N := 6) [.int .i64 x] Try.func62 (by kernel_rfl) (by kernel_rfl) (by kernel_rfl) ?_
  show Run _ _ _ _ [(0, .int .i64 x)] _ _
  refine run_seq (x := F62.c1) (y := F62.c2) (by kernel_rfl) ?_
  refine run_plain (id := 0) (ops := F62.o0) [(0, true)] (by kernel_rfl) (by kernel_rfl) ?_
  refine yS (by kernel_rfl : opAt F62.o0 0 = some (some 2, .assign (.const (.bool false)), none)) rfl rfl (fun w' hS => val_assign rfl) ?_
  refine Sch.nil ?_
  refine run_seq (x := F62.c3) (y := F62.c4) (by kernel_rfl) ?_
  refine run_plain (id := 1) (ops := F62.o1) [(0, true), (1, true), (2, true), (3, true)] (by kernel_rfl) (by kernel_rfl) ?_
  refine yS (by kernel_rfl : opAt F62.o1 0 = some (some 3, .move (.tmp 0), none)) rfl rfl (fun w' hS => val_move rfl) ?_
  refine yS (by kernel_rfl : opAt F62.o1 1 = some (some 4, .move (.tmp 0), none)) rfl rfl (fun w' hS => val_move rfl) ?_
  refine yS (by kernel_rfl : opAt F62.o1 2 = some (some 5, .binOp .neq 3 (.tmp 3) (.tmp 4) 3, none)) rfl rfl (fun w' hS => val_neq rfl rfl) ?_
  refine yS (by kernel_rfl : opAt F62.o1 3 = some (some 2, .assign (.tmp 5), none)) rfl rfl (fun w' hS => val_assign rfl) ?_
  refine Sch.nil ?_
  refine run_ret1 (by kernel_rfl) Try.func62 Try.results62 rfl ?_
  exact ⟨by simp, rfl⟩
namespace F50
noncomputable def c0 : Code := bodyOf Try.f50
noncomputable def c1 : Code := cl c0
noncomputable def o0 : Array Oper := rops c1
noncomputable def c2 : Code := cr c0
noncomputable def c3 : Code := cl c2
noncomputable def o1 : Array Oper := rops c3
noncomputable def c4 : Code := cr c2
noncomputable def c5 : Code := cl c4
noncomputable def o2 : Array Oper := rops c5
noncomputable def c6 : Code := cr c4
noncomputable def c7 : Code := cl c6
noncomputable def c8 : Code := cl c7
noncomputable def o3 : Array Oper := rops c8
noncomputable def c9 : Code := cr c7
noncomputable def c10 : Code := cl c9
noncomputable def c11 : Code := cl c10
noncomputable def c12 : Code := cl c11
noncomputable def o4 : Array Oper := rops c12
noncomputable def c13 : Code := cr c11
noncomputable def c14 : Code := cl c13
noncomputable def c15 : Code := cl c14
noncomputable def o5 : Array Oper := rops c15
noncomputable def c16 : Code := cr c14
noncomputable def c17 : Code := cr c13
noncomputable def c18 : Code := cr c10
noncomputable def c19 : Code := cl c18
noncomputable def o6 : Array Oper := rops c19
noncomputable def c20 : Code := cr c18
noncomputable def c21 : Code := cr c9
noncomputable def c22 : Code := cr c6
noncomputable def c23 : Code := cl c22
noncomputable def c24 : Code := cl c23
noncomputable def o7 : Array Oper := rops c24
noncomputable def c25 : Code := cr c23
noncomputable def c26 : Code := cl c25
noncomputable def c27 : Code := cl c26
noncomputable def o8 : Array Oper := rops c27
noncomputable def c28 : Code := cr c26
noncomputable def c29 : Code := cr c25
noncomputable def c30 : Code := cr c22
noncomputable def c31 : Code := cl c30
noncomputable def c32 : Code := cl c31
noncomputable def o9 : Array Oper := rops c32
noncomputable def c33 : Code := cr c31
noncomputable def c34 : Code := cl c33
noncomputable def c35 : Code := cl c34
noncomputable def o10 : Array Oper := rops c35
noncomputable def c36 : Code := cr c34
noncomputable def c37 : Code := cr c33
noncomputable def c38 : Code := cr c30
noncomputable def c39 : Code := cl c38
noncomputable def c40 : Code := cl c39
noncomputable def o11 : Array Oper := rops c40
noncomputable def c41 : Code := cr c39
noncomputable def c42 : Code := cl c41
noncomputable def c43 : Code := cl c42
noncomputable def o12 : Array Oper := rops c43
noncomputable def c44 : Code := cr c42
noncomputable def c45 : Code := cr c41
noncomputable def c46 : Code := cr c38
noncomputable def c47 : Code := cl c46
noncomputable def o13 : Array Oper := rops c47
noncomputable def c48 : Code := cr c46
end F50
/-- 'cmp.Compare'. -/
theorem cmpI_ok (x y : Int) (w : World) : Calls Try.prog 50 #[.int .i64 x, .int .i64 y] w (Ret fun v w' => v = .int .i64 (cmpI x y) ∧ w' = w) := by
  refine calls_start (c := F50.c0) (N := 20) [.int .i64 x, .int .i64 y] Try.func50 (by kernel_rfl) (by kernel_rfl) (by kernel_rfl) ?_
  show Run _ _ _ _ [(0, .int .i64 x), (1, .int .i64 y)] _ _
  refine run_seq (x := F50.c1) (y := F50.c2) (by kernel_rfl) ?_
  refine run_plain (id := 0) (ops := F50.o0) [(0, true)] (by kernel_rfl) (by kernel_rfl) ?_
  refine yS (by kernel_rfl : opAt F50.o0 0 = some (some 4, .assign (.const (.int .i64 0)), none)) rfl rfl (fun w' hS => val_assign rfl) ?_
  refine Sch.nil ?_
  refine run_seq (x := F50.c3) (y := F50.c4) (by kernel_rfl) ?_
  refine run_plain (id := 1) (ops := F50.o1) [(0, true), (1, false), (2, true)] (by kernel_rfl) (by kernel_rfl) ?_
  refine yS (by kernel_rfl : opAt F50.o1 0 = some (some 7, .move (.tmp 0), none)) rfl rfl (fun w' hS => val_move rfl) ?_
  refine cS (by kernel_rfl : opAt F50.o1 1 = some (some 8, .call { callee := .value (.func 62), args := #[(.tmp 7)], argTypes := #[3] }, none)) rfl rfl (ent Try.call62 rfl) (isNaN_ok _ _) ?_
  rintro vw1 w1 ⟨rfl, rfl⟩
  refine ⟨trivial, ?_⟩
  refine yS (by kernel_rfl : opAt F50.o1 2 = some (some 5, .assign (.tmp 8), none)) rfl rfl (fun w' hS => val_assign rfl) ?_
  refine Sch.nil ?_
  refine run_seq (x := F50.c5) (y := F50.c6) (by kernel_rfl) ?_
  refine run_plain (id := 2) (ops := F50.o2) [(0, true), (1, false), (2, true)] (by kernel_rfl) (by kernel_rfl) ?_
  refine yS (by kernel_rfl : opAt F50.o2 0 = some (some 9, .move (.tmp 1), none)) rfl rfl (fun w' hS => val_move rfl) ?_
  refine cS (by kernel_rfl : opAt F50.o2 1 = some (some 10, .call { callee := .value (.func 62), args := #[(.tmp 9)], argTypes := #[3] }, none)) rfl rfl (ent Try.call62 rfl) (isNaN_ok _ _) ?_
  rintro vw2 w2 ⟨rfl, rfl⟩
  refine ⟨trivial, ?_⟩
  refine yS (by kernel_rfl : opAt F50.o2 2 = some (some 6, .assign (.tmp 10), none)) rfl rfl (fun w' hS => val_assign rfl) ?_
  refine Sch.nil ?_
  refine run_seq (x := F50.c7) (y := F50.c22) (by kernel_rfl) ?_
  refine run_seq (x := F50.c8) (y := F50.c9) (by kernel_rfl) ?_
  refine run_plain (id := 3) (ops := F50.o3) [(0, true)] (by kernel_rfl) (by kernel_rfl) ?_
  refine yS (by kernel_rfl : opAt F50.o3 0 = some (some 11, .move (.tmp 5), none)) rfl rfl (fun w' hS => val_move rfl) ?_
  refine Sch.nil ?_
  refine run_cond (x := F50.c10) (y := F50.c21) (o := .tmp 11) (b := false) (by kernel_rfl) rfl (fun h => by cases h) (fun _ => ?_)
  refine run_skip (by kernel_rfl) ?_
  refine run_seq (x := F50.c23) (y := F50.c30) (by kernel_rfl) ?_
  refine run_seq (x := F50.c24) (y := F50.c25) (by kernel_rfl) ?_
  refine run_plain (id := 7) (ops := F50.o7) [(0, true)] (by kernel_rfl) (by kernel_rfl) ?_
  refine yS (by kernel_rfl : opAt F50.o7 0 = some (some 13, .move (.tmp 6), none)) rfl rfl (fun w' hS => val_move rfl) ?_
  refine Sch.nil ?_
  refine run_cond (x := F50.c26) (y := F50.c29) (o := .tmp 13) (b := false) (by kernel_rfl) rfl (fun h => by cases h) (fun _ => ?_)
  refine run_skip (by kernel_rfl) ?_
  refine run_seq (x := F50.c31) (y := F50.c38) (by kernel_rfl) ?_
  refine run_seq (x := F50.c32) (y := F50.c33) (by kernel_rfl) ?_
  refine run_plain (id := 9) (ops := F50.o9) [(0, true), (1, true), (2, true)] (by kernel_rfl) (by kernel_rfl) ?_
  refine yS (by kernel_rfl : opAt F50.o9 0 = some (some 14, .move (.tmp 0), none)) rfl rfl (fun w' hS => val_move rfl) ?_
  refine yS (by kernel_rfl : opAt F50.o9 1 = some (some 15, .move (.tmp 1), none)) rfl rfl (fun w' hS => val_move rfl) ?_
  refine yS (by kernel_rfl : opAt F50.o9 2 = some (some 16, .binOp .lss 3 (.tmp 14) (.tmp 15) 3, none)) rfl rfl (fun w' hS => val_lss rfl rfl) ?_
  refine Sch.nil ?_
  refine run_if (x := F50.c34) (y := F50.c37) (o := .tmp 16) (by kernel_rfl) rfl (fun h16 => ?_) (fun h16 => ?_)
  · skip
    refine run_seq (x := F50.c35) (y := F50.c36) (by kernel_rfl) ?_
    refine run_plain (id := 10) (ops := F50.o10) [(0, true)] (by kernel_rfl) (by kernel_rfl) ?_
    refine yS (by kernel_rfl : opAt F50.o10 0 = some (some 4, .assign (.const (.int .i64 (-1))), none)) rfl rfl (fun w' hS => val_assign rfl) ?_
    refine Sch.nil ?_
    refine run_ret1 (by kernel_rfl) Try.func50 Try.results50 rfl ?_
    exact ⟨eq_int (by unfold cmpI; split <;> (try split) <;> omega), rfl⟩
  · skip
    refine run_skip (by kernel_rfl) ?_
    refine run_seq (x := F50.c39) (y := F50.c46) (by kernel_rfl) ?_
    refine run_seq (x := F50.c40) (y := F50.c41) (by kernel_rfl) ?_
    refine run_plain (id := 11) (ops := F50.o11) [(0, true), (1, true), (2, true)] (by kernel_rfl) (by kernel_rfl) ?_
    refine yS (by kernel_rfl : opAt F50.o11 0 = some (some 17, .move (.tmp 0), none)) rfl rfl (fun w' hS => val_move rfl) ?_
    refine yS (by kernel_rfl : opAt F50.o11 1 = some (some 18, .move (.tmp 1), none)) rfl rfl (fun w' hS => val_move rfl) ?_
    refine yS (by kernel_rfl : opAt F50.o11 2 = some (some 19, .binOp .gtr 3 (.tmp 17) (.tmp 18) 3, none)) rfl rfl (fun w' hS => val_gtr rfl rfl) ?_
    refine Sch.nil ?_
    refine run_if (x := F50.c42) (y := F50.c45) (o := .tmp 19) (by kernel_rfl) rfl (fun h19 => ?_) (fun h19 => ?_)
    · skip
      refine run_seq (x := F50.c43) (y := F50.c44) (by kernel_rfl) ?_
      refine run_plain (id := 12) (ops := F50.o12) [(0, true)] (by kernel_rfl) (by kernel_rfl) ?_
      refine yS (by kernel_rfl : opAt F50.o12 0 = some (some 4, .assign (.const (.int .i64 1)), none)) rfl rfl (fun w' hS => val_assign rfl) ?_
      refine Sch.nil ?_
      refine run_ret1 (by kernel_rfl) Try.func50 Try.results50 rfl ?_
      exact ⟨eq_int (by unfold cmpI; split <;> (try split) <;> omega), rfl⟩
    · skip
      refine run_skip (by kernel_rfl) ?_
      refine run_seq (x := F50.c47) (y := F50.c48) (by kernel_rfl) ?_
      refine run_plain (id := 13) (ops := F50.o13) [(0, true)] (by kernel_rfl) (by kernel_rfl) ?_
      refine yS (by kernel_rfl : opAt F50.o13 0 = some (some 4, .assign (.const (.int .i64 0)), none)) rfl rfl (fun w' hS => val_assign rfl) ?_
      refine Sch.nil ?_
      refine run_ret1 (by kernel_rfl) Try.func50 Try.results50 rfl ?_
      exact ⟨eq_int (by unfold cmpI; split <;> (try split) <;> omega), rfl⟩
namespace F35
noncomputable def c0 : Code := bodyOf Try.f35
noncomputable def c1 : Code := cl c0
noncomputable def o0 : Array Oper := rops c1
noncomputable def c2 : Code := cr c0
noncomputable def c3 : Code := cl c2
noncomputable def o1 : Array Oper := rops c3
noncomputable def c4 : Code := cr c2
end F35
/-- The order of couples. -/
theorem compare_ok {w₀ : World} {C : Nat → Nat} {x y : Couple} (hF : Lim w₀ C) : Calls Try.prog 35 #[.agg #[.int .i64 x.a, .int .i64 x.b], .agg #[.int .i64 y.a, .int .i64 y.b]] w₀ (Ret fun v w' => v = .int .i64 (cmpC x y) ∧ Stp [] w₀ C w' C) := by
  have hF0 := hF
  have hT := Stp.refl [2, 3, 4, 5, 6, 7, 8, 9] w₀ (col1 C)
  replace hF := hF.col1
  refine calls_start (c := F35.c0) (N := 17) [.agg #[.int .i64 x.a, .int .i64 x.b], .agg #[.int .i64 y.a, .int .i64 y.b]] Try.func35 (by kernel_rfl) (by kernel_rfl) (by kernel_rfl) ?_
  show Run _ _ _ _ [(0, .agg #[.int .i64 x.a, .int .i64 x.b]), (1, .agg #[.int .i64 y.a, .int .i64 y.b])] _ _
  refine run_seq (x := F35.c1) (y := F35.c2) (by kernel_rfl) ?_
  refine run_plain (id := 0) (ops := F35.o0) [(0, false), (1, false), (2, true)] (by kernel_rfl) (by kernel_rfl) ?_
  refine aS (by kernel_rfl : opAt F35.o0 0 = some (some 2, .box 25 (.tmp 0), none)) rfl rfl (a_box (cs := [.int .i64 x.a, .int .i64 x.b]) hF 3 rfl rfl) ?_
  rintro _ w1 ⟨Cw1, bw1, rfl, hs, hx, hF⟩
  refine ⟨trivial, ?_⟩
  replace hT := hT.trans hs (by simp)
  refine aS (by kernel_rfl : opAt F35.o0 1 = some (some 3, .box 25 (.tmp 1), none)) rfl rfl (a_box (cs := [.int .i64 y.a, .int .i64 y.b]) hF 3 rfl rfl) ?_
  rintro _ w2 ⟨Cw2, bw2, rfl, hs, hy, hF⟩
  refine ⟨trivial, ?_⟩
  replace hT := hT.trans hs (by simp)
  replace hx := hx.st hs (by first | decide | (simp <;> omega))
  refine yS (by kernel_rfl : opAt F35.o0 2 = some (some 4, .assign (.const (.int .i64 0)), none)) rfl rfl (fun w' hS => val_assign rfl) ?_
  refine Sch.nil ?_
  refine run_seq (x := F35.c3) (y := F35.c4) (by kernel_rfl) ?_
  refine run_draw (id := 1) (ops := F35.o1) [] (Cw2) [(0, true), (1, true), (2, true), (3, true), (5, true), (6, true), (7, true), (8, true), (4, false), (9, false), (10, false), (11, false), (12, true)] Try_mixed (by kernel_rfl) (by kernel_rfl) (by kernel_rfl) ?_
  intro w3 hs
  replace hF := hF.st hs
  replace hT := hT.trans hs (by simp)
  replace hx := hx.st hs (by first | decide | (simp <;> omega))
  replace hy := hy.st hs (by first | decide | (simp <;> omega))
  have hR := Stp.refl [] w3 (Cw2)
  refine yS (by kernel_rfl : opAt F35.o1 0 = some (some 5, .fieldAddr 25 (.tmp 2) 0, none)) rfl rfl (fun w' hS => val_fieldAddr (off := 0) (by kernel_rfl) rfl) ?_
  refine yS (by kernel_rfl : opAt F35.o1 1 = some (some 6, .load 3 (.tmp 5), none)) rfl rfl (fun w' hS => val_loadOwn (hx.stay hS (by decide)) (by kernel_rfl) rfl rfl) ?_
  refine yS (by kernel_rfl : opAt F35.o1 2 = some (some 7, .fieldAddr 25 (.tmp 3) 0, none)) rfl rfl (fun w' hS => val_fieldAddr (off := 0) (by kernel_rfl) rfl) ?_
  refine yS (by kernel_rfl : opAt F35.o1 3 = some (some 8, .load 3 (.tmp 7), none)) rfl rfl (fun w' hS => val_loadOwn (hy.stay hS (by decide)) (by kernel_rfl) rfl rfl) ?_
  refine yS (by kernel_rfl : opAt F35.o1 5 = some (some 10, .fieldAddr 25 (.tmp 2) 1, none)) rfl rfl (fun w' hS => val_fieldAddr (off := 1) (by kernel_rfl) rfl) ?_
  refine yS (by kernel_rfl : opAt F35.o1 6 = some (some 11, .load 3 (.tmp 10), none)) rfl rfl (fun w' hS => val_loadOwn (hx.stay hS (by decide)) (by kernel_rfl) rfl rfl) ?_
  refine yS (by kernel_rfl : opAt F35.o1 7 = some (some 12, .fieldAddr 25 (.tmp 3) 1, none)) rfl rfl (fun w' hS => val_fieldAddr (off := 1) (by kernel_rfl) rfl) ?_
  refine yS (by kernel_rfl : opAt F35.o1 8 = some (some 13, .load 3 (.tmp 12), none)) rfl rfl (fun w' hS => val_loadOwn (hy.stay hS (by decide)) (by kernel_rfl) rfl rfl) ?_
  refine cS (by kernel_rfl : opAt F35.o1 4 = some (some 9, .call { callee := .value (.func 50), args := #[(.tmp 6), (.tmp 8)], argTypes := #[3, 3] }, none)) rfl rfl (ent Try.call50 rfl) (cmpI_ok _ _ _) ?_
  rintro vw4 w4 ⟨rfl, rfl⟩
  refine ⟨hR.ext, ?_⟩
  refine cS (by kernel_rfl : opAt F35.o1 9 = some (some 14, .call { callee := .value (.func 50), args := #[(.tmp 11), (.tmp 13)], argTypes := #[3, 3] }, none)) rfl rfl (ent Try.call50 rfl) (cmpI_ok _ _ _) ?_
  rintro vw5 w5 ⟨rfl, rfl⟩
  refine ⟨hR.ext, ?_⟩
  refine aS (by kernel_rfl : opAt F35.o1 10 = some (some 15, .buildSlice 22 2 #[(0, (.tmp 9)), (1, (.tmp 14))], none)) rfl rfl (a_buildSlice (ys := ([cmpI x.a y.a, cmpI x.b y.b] : List Int)) (e := 3) (bytes := 8) hF (by kernel_rfl) rfl (by decide) (by decide) ⟨rfl, ⟨_, rfl, rv_int.2 rfl⟩, rfl, ⟨_, rfl, rv_int.2 rfl⟩, trivial⟩) ?_
  rintro v15 w6 ⟨hs, g15, hF⟩
  refine ⟨(hR.trans hs (by simp)).ext, ?_⟩
  replace hT := hT.trans hs (by simp)
  replace hx := hx.st hs (by first | decide | (simp <;> omega))
  replace hy := hy.st hs (by first | decide | (simp <;> omega))
  replace hR := hR.trans hs (by simp)
  refine cS (by kernel_rfl : opAt F35.o1 11 = some (some 16, .call { callee := .value (.func 47), args := #[(.tmp 15)], argTypes := #[22] }, none)) rfl rfl (ent Try.call47 rfl) (orI_ok g15) ?_
  rintro vw7 w7 ⟨rfl, rfl⟩
  refine ⟨hR.ext, ?_⟩
  refine yS (by kernel_rfl : opAt F35.o1 12 = some (some 4, .assign (.tmp 16), none)) rfl rfl (fun w' hS => val_assign rfl) ?_
  refine Sch.nil ?_
  refine run_ret1 (by kernel_rfl) Try.func35 Try.results35 rfl ?_
  exact ⟨rfl, hT.out1 (by decide)⟩
theorem ltC (x y : Couple) : Go.Proofs.ltOf cmpC x y = !leC y x := by unfold leC Go.Proofs.ltOf; simp
theorem swoC : Go.Sort.SWO (Go.Proofs.ltOf cmpC) where
  irrefl x := by rw [ltC]; simp [leC_iff]
  trans x y z h h' := by
    rw [ltC] at *
    simp only [Bool.not_eq_true', Bool.eq_false_iff, ne_eq, leC_iff] at *
    omega
  ntrans x y z h h' := by
    rw [ltC] at *
    simp only [Bool.not_eq_false', leC_iff] at *
    omega
theorem ltC_total (x y : Couple) (h : Go.Proofs.ltOf cmpC x y = false) (h' : Go.Proofs.ltOf cmpC y x = false) : x = y := by
  rw [ltC] at h h'
  simp only [Bool.not_eq_false'] at h h'
  exact leC_anti x y h' h
/-- 'slices.SortFunc' at couples. -/
theorem sort_ok {w : World} {C : Nat → Nat} {j : Nat} {v : Value} {ys : List Couple} (hF : Lim w C) (ho : OwnL w C j 25 v ys) (hlen : ys.length ≤ 140737488355328) :
    Calls Try.prog 34 #[v, .func (.func 35) #[] #[]] w (Ret fun u w' => u = .tuple #[] ∧ Stp [j] w C w' C ∧ OwnL w' C j 25 v (sortC ys) ∧ Lim w' C) :=
  sort_own (enc := encC) (cf := cmpC) Go.Proofs.Try.sortCouple (fun w => Try.isAgg25 w) (fun w => Try.sizeOf25 w)
    (fun h M x vs => ⟨fun hr => by obtain ⟨us, ws, rfl, h1, h2⟩ := hr; rw [show us = [.int .i64 x.a] from h1, show ws = [.int .i64 x.b] from h2]; rfl, fun hr => by subst hr; exact ⟨[.int .i64 x.a], [.int .i64 x.b], rfl, rfl, rfl⟩⟩)
    (fun x => rfl) (by decide) (fun x u hu => by simp only [encC, List.mem_cons, List.not_mem_nil, or_false] at hu; rcases hu with rfl | rfl <;> rfl) swoC ltC_total (fun args w => Try.call35 args w)
    (fun W x y => (compare_ok (C := fun _ => 0) (fun b hb => absurd rfl hb)).mono (by rintro e w' ⟨u, rfl, rfl, hs⟩; exact ⟨_, rfl, rfl, hs.ext.mono (fun b _ hb => by simp at hb)⟩)) hF ho hlen

namespace F46
noncomputable def c0 : Code := bodyOf Try.f46
noncomputable def c1 : Code := cl c0
noncomputable def o0 : Array Oper := rops c1
noncomputable def c2 : Code := cr c0
noncomputable def c3 : Code := cl c2
noncomputable def o1 : Array Oper := rops c3
noncomputable def c4 : Code := cr c2
end F46
theorem greyRef_ok {w₀ : World} {C : Nat → Nat} {x : Couple} (hF : Lim w₀ C) : Calls Try.prog 46 #[.agg #[.int .i64 x.a, .int .i64 x.b]] w₀ (Ret fun v w' => v = .bool (refOK x) ∧ Stp [] w₀ C w' C) := by
  have hF0 := hF
  have hT := Stp.refl [2, 3, 4, 5, 6, 7, 8, 9] w₀ (col1 C)
  replace hF := hF.col1
  refine calls_start (c := F46.c0) (N := 21) [.agg #[.int .i64 x.a, .int .i64 x.b]] Try.func46 (by kernel_rfl) (by kernel_rfl) (by kernel_rfl) ?_
  show Run _ _ _ _ [(0, .agg #[.int .i64 x.a, .int .i64 x.b])] _ _
  refine run_seq (x := F46.c1) (y := F46.c2) (by kernel_rfl) ?_
  refine run_plain (id := 0) (ops := F46.o0) [(0, false), (1, true)] (by kernel_rfl) (by kernel_rfl) ?_
  refine aS (by kernel_rfl : opAt F46.o0 0 = some (some 1, .box 25 (.tmp 0), none)) rfl rfl (a_box (cs := [.int .i64 x.a, .int .i64 x.b]) hF 3 rfl rfl) ?_
  rintro _ w1 ⟨Cw1, bw1, rfl, hs, hx, hF⟩
  refine ⟨trivial, ?_⟩
  replace hT := hT.trans hs (by simp)
  refine yS (by kernel_rfl : opAt F46.o0 1 = some (some 2, .assign (.const (.bool false)), none)) rfl rfl (fun w' hS => val_assign rfl) ?_
  refine Sch.nil ?_
  refine kp (sub_cons 1 rfl rfl (sub_nil _)) ?_
  refine run_seq (x := F46.c3) (y := F46.c4) (by kernel_rfl) ?_
  refine run_cut 2 (refOK x) (Cw1) ?_ ?_
  · intro hcut
    by_cases hA : 0 ≤ x.a
    · skip
      by_cases hB : x.a < 4
      · skip
        by_cases hC : 1 ≤ x.b
        · skip
          refine run_plain (id := 1) (ops := F46.o1) [(0, true), (1, false), (2, true), (3, true), (4, true), (5, false), (6, true), (7, true), (8, true), (9, true), (10, false), (11, true), (12, true), (13, true), (14, true), (15, false), (16, true), (17, true), (18, true)] (by kernel_rfl) (by kernel_rfl) ?_
          refine yS (by kernel_rfl : opAt F46.o1 0 = some (some 3, .fieldAddr 25 (.tmp 1) 0, none)) rfl rfl (fun w' hS => val_fieldAddr (off := 0) (by kernel_rfl) rfl) ?_
          refine nS (by kernel_rfl : opAt F46.o1 1 = some (some 4, .load 3 (.tmp 3), none)) rfl rfl trivial (val_loadOwn hx.at_ (by kernel_rfl) rfl rfl) ?_
          refine yS (by kernel_rfl : opAt F46.o1 2 = some (some 5, .binOp .geq 3 (.tmp 4) (.const (.int .i64 0)) 3, none)) rfl rfl (fun w' hS => val_T (val_geq rfl rfl) hA) ?_
          refine yS (by kernel_rfl : opAt F46.o1 3 = some (some 6, .move (.tmp 5), none)) rfl rfl (fun w' hS => val_move rfl) ?_
          refine yS (by kernel_rfl : opAt F46.o1 4 = some (some 7, .fieldAddr 25 (.tmp 1) 0, (some (3, true)))) rfl rfl (fun w' hS => val_fieldAddr (off := 0) (by kernel_rfl) rfl) ?_
          refine nS (by kernel_rfl : opAt F46.o1 5 = some (some 8, .load 3 (.tmp 7), (some (3, true)))) rfl rfl trivial (val_loadOwn hx.at_ (by kernel_rfl) rfl rfl) ?_
          refine yS (by kernel_rfl : opAt F46.o1 6 = some (some 9, .binOp .lss 3 (.tmp 8) (.const (.int .i64 4)) 3, (some (3, true)))) rfl rfl (fun w' hS => val_T (val_lss rfl rfl) hB) ?_
          refine yS (by kernel_rfl : opAt F46.o1 7 = some (some 10, .pick (.tmp 6) (.tmp 9) (.const (.bool false)), none)) rfl rfl (fun w' hS => val_pick_t rfl rfl) ?_
          refine yS (by kernel_rfl : opAt F46.o1 8 = some (some 11, .move (.tmp 10), none)) rfl rfl (fun w' hS => val_move rfl) ?_
          refine yS (by kernel_rfl : opAt F46.o1 9 = some (some 12, .fieldAddr 25 (.tmp 1) 1, (some (8, true)))) rfl rfl (fun w' hS => val_fieldAddr (off := 1) (by kernel_rfl) rfl) ?_
          refine nS (by kernel_rfl : opAt F46.o1 10 = some (some 13, .load 3 (.tmp 12), (some (8, true)))) rfl rfl trivial (val_loadOwn hx.at_ (by kernel_rfl) rfl rfl) ?_
          refine yS (by kernel_rfl : opAt F46.o1 11 = some (some 14, .binOp .geq 3 (.tmp 13) (.const (.int .i64 1)) 3, (some (8, true)))) rfl rfl (fun w' hS => val_T (val_geq rfl rfl) hC) ?_
          refine yS (by kernel_rfl : opAt F46.o1 12 = some (some 15, .pick (.tmp 11) (.tmp 14) (.const (.bool false)), none)) rfl rfl (fun w' hS => val_pick_t rfl rfl) ?_
          refine yS (by kernel_rfl : opAt F46.o1 13 = some (some 16, .move (.tmp 15), none)) rfl rfl (fun w' hS => val_move rfl) ?_
          refine yS (by kernel_rfl : opAt F46.o1 14 = some (some 17, .fieldAddr 25 (.tmp 1) 1, (some (13, true)))) rfl rfl (fun w' hS => val_fieldAddr (off := 1) (by kernel_rfl) rfl) ?_
          refine nS (by kernel_rfl : opAt F46.o1 15 = some (some 18, .load 3 (.tmp 17), (some (13, true)))) rfl rfl trivial (val_loadOwn hx.at_ (by kernel_rfl) rfl rfl) ?_
          refine yS (by kernel_rfl : opAt F46.o1 16 = some (some 19, .binOp .leq 3 (.tmp 18) (.const (.int .i64 1048576)) 3, (some (13, true)))) rfl rfl (fun w' hS => val_leq rfl rfl) ?_
          refine yS (by kernel_rfl : opAt F46.o1 17 = some (some 20, .pick (.tmp 16) (.tmp 19) (.const (.bool false)), none)) rfl rfl (fun w' hS => val_pick_t rfl rfl) ?_
          refine yS (by kernel_rfl : opAt F46.o1 18 = some (some 2, .assign (.tmp 20), none)) rfl rfl (fun w' hS => val_assign rfl) ?_
          exact Sch.nil (hcut _ _ _ (Stp.refl _ _ _) rfl (by unfold refOK; rw [decide_eq_true hA, decide_eq_true hB, decide_eq_true hC]; rfl) (sub_skip rfl (sub_skip rfl (sub_skip rfl (sub_skip rfl (sub_skip rfl (sub_skip rfl (sub_skip rfl (sub_skip rfl (sub_skip rfl (sub_skip rfl (sub_skip rfl (sub_skip rfl (sub_skip rfl (sub_skip rfl (sub_skip rfl (sub_skip rfl (sub_skip rfl (sub_skip rfl (sub_skip rfl (Sub.refl _)))))))))))))))))))))
        · skip
          refine run_plain (id := 1) (ops := F46.o1) [(0, true), (1, false), (2, true), (3, true), (4, true), (5, false), (6, true), (7, true), (8, true), (9, true), (10, false), (11, true), (12, true), (13, true), (14, true), (15, false), (16, true), (17, true), (18, true)] (by kernel_rfl) (by kernel_rfl) ?_
          refine yS (by kernel_rfl : opAt F46.o1 0 = some (some 3, .fieldAddr 25 (.tmp 1) 0, none)) rfl rfl (fun w' hS => val_fieldAddr (off := 0) (by kernel_rfl) rfl) ?_
          refine nS (by kernel_rfl : opAt F46.o1 1 = some (some 4, .load 3 (.tmp 3), none)) rfl rfl trivial (val_loadOwn hx.at_ (by kernel_rfl) rfl rfl) ?_
          refine yS (by kernel_rfl : opAt F46.o1 2 = some (some 5, .binOp .geq 3 (.tmp 4) (.const (.int .i64 0)) 3, none)) rfl rfl (fun w' hS => val_T (val_geq rfl rfl) hA) ?_
          refine yS (by kernel_rfl : opAt F46.o1 3 = some (some 6, .move (.tmp 5), none)) rfl rfl (fun w' hS => val_move rfl) ?_
          refine yS (by kernel_rfl : opAt F46.o1 4 = some (some 7, .fieldAddr 25 (.tmp 1) 0, (some (3, true)))) rfl rfl (fun w' hS => val_fieldAddr (off := 0) (by kernel_rfl) rfl) ?_
          refine nS (by kernel_rfl : opAt F46.o1 5 = some (some 8, .load 3 (.tmp 7), (some (3, true)))) rfl rfl trivial (val_loadOwn hx.at_ (by kernel_rfl) rfl rfl) ?_
          refine yS (by kernel_rfl : opAt F46.o1 6 = some (some 9, .binOp .lss 3 (.tmp 8) (.const (.int .i64 4)) 3, (some (3, true)))) rfl rfl (fun w' hS => val_T (val_lss rfl rfl) hB) ?_
          refine yS (by kernel_rfl : opAt F46.o1 7 = some (some 10, .pick (.tmp 6) (.tmp 9) (.const (.bool false)), none)) rfl rfl (fun w' hS => val_pick_t rfl rfl) ?_
          refine yS (by kernel_rfl : opAt F46.o1 8 = some (some 11, .move (.tmp 10), none)) rfl rfl (fun w' hS => val_move rfl) ?_
          refine yS (by kernel_rfl : opAt F46.o1 9 = some (some 12, .fieldAddr 25 (.tmp 1) 1, (some (8, true)))) rfl rfl (fun w' hS => val_fieldAddr (off := 1) (by kernel_rfl) rfl) ?_
          refine nS (by kernel_rfl : opAt F46.o1 10 = some (some 13, .load 3 (.tmp 12), (some (8, true)))) rfl rfl trivial (val_loadOwn hx.at_ (by kernel_rfl) rfl rfl) ?_
          refine yS (by kernel_rfl : opAt F46.o1 11 = some (some 14, .binOp .geq 3 (.tmp 13) (.const (.int .i64 1)) 3, (some (8, true)))) rfl rfl (fun w' hS => val_F (val_geq rfl rfl) hC) ?_
          refine yS (by kernel_rfl : opAt F46.o1 12 = some (some 15, .pick (.tmp 11) (.tmp 14) (.const (.bool false)), none)) rfl rfl (fun w' hS => val_pick_t rfl rfl) ?_
          refine yS (by kernel_rfl : opAt F46.o1 13 = some (some 16, .move (.tmp 15), none)) rfl rfl (fun w' hS => val_move rfl) ?_
          refine pS (by kernel_rfl : opAt F46.o1 14 = some (some 17, .fieldAddr 25 (.tmp 1) 1, (some (13, true)))) rfl rfl ?_
          refine pW (by kernel_rfl : opAt F46.o1 15 = some (some 18, .load 3 (.tmp 17), (some (13, true)))) rfl rfl trivial ?_
          refine pS (by kernel_rfl : opAt F46.o1 16 = some (some 19, .binOp .leq 3 (.tmp 18) (.const (.int .i64 1048576)) 3, (some (13, true)))) rfl rfl ?_
          refine yS (by kernel_rfl : opAt F46.o1 17 = some (some 20, .pick (.tmp 16) (.tmp 19) (.const (.bool false)), none)) rfl rfl (fun w' hS => val_pick_f rfl rfl) ?_
          refine yS (by kernel_rfl : opAt F46.o1 18 = some (some 2, .assign (.tmp 20), none)) rfl rfl (fun w' hS => val_assign rfl) ?_
          exact Sch.nil (hcut _ _ _ (Stp.refl _ _ _) rfl (by unfold refOK; rw [decide_eq_true hA, decide_eq_true hB, decide_eq_false hC]; rfl) (sub_skip rfl (sub_skip rfl (sub_skip rfl (sub_skip rfl (sub_skip rfl (sub_skip rfl (sub_skip rfl (sub_skip rfl (sub_skip rfl (sub_skip rfl (sub_skip rfl (sub_skip rfl (sub_skip rfl (sub_skip rfl (sub_skip rfl (sub_skip rfl (sub_skip rfl (sub_skip rfl (sub_skip rfl (Sub.refl _)))))))))))))))))))))
      · skip
        refine run_plain (id := 1) (ops := F46.o1) [(0, true), (1, false), (2, true), (3, true), (4, true), (5, false), (6, true), (7, true), (8, true), (9, true), (10, false), (11, true), (12, true), (13, true), (14, true), (15, false), (16, true), (17, true), (18, true)] (by kernel_rfl) (by kernel_rfl) ?_
        refine yS (by kernel_rfl : opAt F46.o1 0 = some (some 3, .fieldAddr 25 (.tmp 1) 0, none)) rfl rfl (fun w' hS => val_fieldAddr (off := 0) (by kernel_rfl) rfl) ?_
        refine nS (by kernel_rfl : opAt F46.o1 1 = some (some 4, .load 3 (.tmp 3), none)) rfl rfl trivial (val_loadOwn hx.at_ (by kernel_rfl) rfl rfl) ?_
        refine yS (by kernel_rfl : opAt F46.o1 2 = some (some 5, .binOp .geq 3 (.tmp 4) (.const (.int .i64 0)) 3, none)) rfl rfl (fun w' hS => val_T (val_geq rfl rfl) hA) ?_
        refine yS (by kernel_rfl : opAt F46.o1 3 = some (some 6, .move (.tmp 5), none)) rfl rfl (fun w' hS => val_move rfl) ?_
        refine yS (by kernel_rfl : opAt F46.o1 4 = some (some 7, .fieldAddr 25 (.tmp 1) 0, (some (3, true)))) rfl rfl (fun w' hS => val_fieldAddr (off := 0) (by kernel_rfl) rfl) ?_
        refine nS (by kernel_rfl : opAt F46.o1 5 = some (some 8, .load 3 (.tmp 7), (some (3, true)))) rfl rfl trivial (val_loadOwn hx.at_ (by kernel_rfl) rfl rfl) ?_
        refine yS (by kernel_rfl : opAt F46.o1 6 = some (some 9, .binOp .lss 3 (.tmp 8) (.const (.int .i64 4)) 3, (some (3, true)))) rfl rfl (fun w' hS => val_F (val_lss rfl rfl) hB) ?_
        refine yS (by kernel_rfl : opAt F46.o1 7 = some (some 10, .pick (.tmp 6) (.tmp 9) (.const (.bool false)), none)) rfl rfl (fun w' hS => val_pick_t rfl rfl) ?_
        refine yS (by kernel_rfl : opAt F46.o1 8 = some (some 11, .move (.tmp 10), none)) rfl rfl (fun w' hS => val_move rfl) ?_
        refine pS (by kernel_rfl : opAt F46.o1 9 = some (some 12, .fieldAddr 25 (.tmp 1) 1, (some (8, true)))) rfl rfl ?_
        refine pW (by kernel_rfl : opAt F46.o1 10 = some (some 13, .load 3 (.tmp 12), (some (8, true)))) rfl rfl trivial ?_
        refine pS (by kernel_rfl : opAt F46.o1 11 = some (some 14, .binOp .geq 3 (.tmp 13) (.const (.int .i64 1)) 3, (some (8, true)))) rfl rfl ?_
        refine yS (by kernel_rfl : opAt F46.o1 12 = some (some 15, .pick (.tmp 11) (.tmp 14) (.const (.bool false)), none)) rfl rfl (fun w' hS => val_pick_f rfl rfl) ?_
        refine yS (by kernel_rfl : opAt F46.o1 13 = some (some 16, .move (.tmp 15), none)) rfl rfl (fun w' hS => val_move rfl) ?_
        refine pS (by kernel_rfl : opAt F46.o1 14 = some (some 17, .fieldAddr 25 (.tmp 1) 1, (some (13, true)))) rfl rfl ?_
        refine pW (by kernel_rfl : opAt F46.o1 15 = some (some 18, .load 3 (.tmp 17), (some (13, true)))) rfl rfl trivial ?_
        refine pS (by kernel_rfl : opAt F46.o1 16 = some (some 19, .binOp .leq 3 (.tmp 18) (.const (.int .i64 1048576)) 3, (some (13, true)))) rfl rfl ?_
        refine yS (by kernel_rfl : opAt F46.o1 17 = some (some 20, .pick (.tmp 16) (.tmp 19) (.const (.bool false)), none)) rfl rfl (fun w' hS => val_pick_f rfl rfl) ?_
        refine yS (by kernel_rfl : opAt F46.o1 18 = some (some 2, .assign (.tmp 20), none)) rfl rfl (fun w' hS => val_assign rfl) ?_
        exact Sch.nil (hcut _ _ _ (Stp.refl _ _ _) rfl (by unfold refOK; rw [decide_eq_true hA, decide_eq_false hB]; rfl) (sub_skip rfl (sub_skip rfl (sub_skip rfl (sub_skip rfl (sub_skip rfl (sub_skip rfl (sub_skip rfl (sub_skip rfl (sub_skip rfl (sub_skip rfl (sub_skip rfl (sub_skip rfl (sub_skip rfl (sub_skip rfl (sub_skip rfl (sub_skip rfl (sub_skip rfl (sub_skip rfl (sub_skip rfl (Sub.refl _)))))))))))))))))))))
    · skip
      refine run_plain (id := 1) (ops := F46.o1) [(0, true), (1, false), (2, true), (3, true), (4, true), (5, false), (6, true), (7, true), (8, true), (9, true), (10, false), (11, true), (12, true), (13, true), (14, true), (15, false), (16, true), (17, true), (18, true)] (by kernel_rfl) (by kernel_rfl) ?_
      refine yS (by kernel_rfl : opAt F46.o1 0 = some (some 3, .fieldAddr 25 (.tmp 1) 0, none)) rfl rfl (fun w' hS => val_fieldAddr (off := 0) (by kernel_rfl) rfl) ?_
      refine nS (by kernel_rfl : opAt F46.o1 1 = some (some 4, .load 3 (.tmp 3), none)) rfl rfl trivial (val_loadOwn hx.at_ (by kernel_rfl) rfl rfl) ?_
      refine yS (by kernel_rfl : opAt F46.o1 2 = some (some 5, .binOp .geq 3 (.tmp 4) (.const (.int .i64 0)) 3, none)) rfl rfl (fun w' hS => val_F (val_geq rfl rfl) hA) ?_
      refine yS (by kernel_rfl : opAt F46.o1 3 = some (some 6, .move (.tmp 5), none)) rfl rfl (fun w' hS => val_move rfl) ?_
      refine pS (by kernel_rfl : opAt F46.o1 4 = some (some 7, .fieldAddr 25 (.tmp 1) 0, (some (3, true)))) rfl rfl ?_
      refine pW (by kernel_rfl : opAt F46.o1 5 = some (some 8, .load 3 (.tmp 7), (some (3, true)))) rfl rfl trivial ?_
      refine pS (by kernel_rfl : opAt F46.o1 6 = some (some 9, .binOp .lss 3 (.tmp 8) (.const (.int .i64 4)) 3, (some (3, true)))) rfl rfl ?_
      refine yS (by kernel_rfl : opAt F46.o1 7 = some (some 10, .pick (.tmp 6) (.tmp 9) (.const (.bool false)), none)) rfl rfl (fun w' hS => val_pick_f rfl rfl) ?_
      refine yS (by kernel_rfl : opAt F46.o1 8 = some (some 11, .move (.tmp 10), none)) rfl rfl (fun w' hS => val_move rfl) ?_
      refine pS (by kernel_rfl : opAt F46.o1 9 = some (some 12, .fieldAddr 25 (.tmp 1) 1, (some (8, true)))) rfl rfl ?_
      refine pW (by kernel_rfl : opAt F46.o1 10 = some (some 13, .load 3 (.tmp 12), (some (8, true)))) rfl rfl trivial ?_
      refine pS (by kernel_rfl : opAt F46.o1 11 = some (some 14, .binOp .geq 3 (.tmp 13) (.const (.int .i64 1)) 3, (some (8, true)))) rfl rfl ?_
      refine yS (by kernel_rfl : opAt F46.o1 12 = some (some 15, .pick (.tmp 11) (.tmp 14) (.const (.bool false)), none)) rfl rfl (fun w' hS => val_pick_f rfl rfl) ?_
      refine yS (by kernel_rfl : opAt F46.o1 13 = some (some 16, .move (.tmp 15), none)) rfl rfl (fun w' hS => val_move rfl) ?_
      refine pS (by kernel_rfl : opAt F46.o1 14 = some (some 17, .fieldAddr 25 (.tmp 1) 1, (some (13, true)))) rfl rfl ?_
      refine pW (by kernel_rfl : opAt F46.o1 15 = some (some 18, .load 3 (.tmp 17), (some (13, true)))) rfl rfl trivial ?_
      refine pS (by kernel_rfl : opAt F46.o1 16 = some (some 19, .binOp .leq 3 (.tmp 18) (.const (.int .i64 1048576)) 3, (some (13, true)))) rfl rfl ?_
      refine yS (by kernel_rfl : opAt F46.o1 17 = some (some 20, .pick (.tmp 16) (.tmp 19) (.const (.bool false)), none)) rfl rfl (fun w' hS => val_pick_f rfl rfl) ?_
      refine yS (by kernel_rfl : opAt F46.o1 18 = some (some 2, .assign (.tmp 20), none)) rfl rfl (fun w' hS => val_assign rfl) ?_
      exact Sch.nil (hcut _ _ _ (Stp.refl _ _ _) rfl (by unfold refOK; rw [decide_eq_false hA]; rfl) (sub_skip rfl (sub_skip rfl (sub_skip rfl (sub_skip rfl (sub_skip rfl (sub_skip rfl (sub_skip rfl (sub_skip rfl (sub_skip rfl (sub_skip rfl (sub_skip rfl (sub_skip rfl (sub_skip rfl (sub_skip rfl (sub_skip rfl (sub_skip rfl (sub_skip rfl (sub_skip rfl (sub_skip rfl (Sub.refl _)))))))))))))))))))))
  intro w2 hs
  replace hF := hF.st hs
  replace hT := hT.trans hs (by simp)
  replace hx := hx.st hs (by first | decide | (simp <;> omega))
  refine run_ret1 (by kernel_rfl) Try.func46 Try.results46 rfl ?_
  exact ⟨rfl, hT.out1 (by decide)⟩
namespace F33
noncomputable def c0 : Code := bodyOf Try.f33
noncomputable def c1 : Code := cl c0
noncomputable def o0 : Array Oper := rops c1
noncomputable def c2 : Code := cr c0
noncomputable def c3 : Code := cl c2
noncomputable def o1 : Array Oper := rops c3
noncomputable def c4 : Code := cr c2
end F33
theorem ref27_ok {w₀ : World} {C : Nat → Nat} {x : Couple} (hF : Lim w₀ C) : Calls Try.prog 33 #[.agg #[.int .i64 x.a, .int .i64 x.b]] w₀ (Ret fun v w' => v = .bool (refOK x) ∧ Stp [] w₀ C w' C) := by
  have hF0 := hF
  have hT := Stp.refl [2, 3, 4, 5, 6, 7, 8, 9] w₀ (col1 C)
  replace hF := hF.col1
  refine calls_start (c := F33.c0) (N := 21) [.agg #[.int .i64 x.a, .int .i64 x.b]] Try.func33 (by kernel_rfl) (by kernel_rfl) (by kernel_rfl) ?_
  show Run _ _ _ _ [(0, .agg #[.int .i64 x.a, .int .i64 x.b])] _ _
  refine run_seq (x := F33.c1) (y := F33.c2) (by kernel_rfl) ?_
  refine run_plain (id := 0) (ops := F33.o0) [(0, false), (1, true)] (by kernel_rfl) (by kernel_rfl) ?_
  refine aS (by kernel_rfl : opAt F33.o0 0 = some (some 1, .box 25 (.tmp 0), none)) rfl rfl (a_box (cs := [.int .i64 x.a, .int .i64 x.b]) hF 3 rfl rfl) ?_
  rintro _ w1 ⟨Cw1, bw1, rfl, hs, hx, hF⟩
  refine ⟨trivial, ?_⟩
  replace hT := hT.trans hs (by simp)
  refine yS (by kernel_rfl : opAt F33.o0 1 = some (some 2, .assign (.const (.bool false)), none)) rfl rfl (fun w' hS => val_assign rfl) ?_
  refine Sch.nil ?_
  refine kp (sub_cons 1 rfl rfl (sub_nil _)) ?_
  refine run_seq (x := F33.c3) (y := F33.c4) (by kernel_rfl) ?_
  refine run_cut 2 (refOK x) (Cw1) ?_ ?_
  · intro hcut
    by_cases hA : 0 ≤ x.a
    · skip
      by_cases hB : x.a < 4
      · skip
        by_cases hC : 1 ≤ x.b
        · skip
          refine run_plain (id := 1) (ops := F33.o1) [(0, true), (1, false), (2, true), (3, true), (4, true), (5, false), (6, true), (7, true), (8, true), (9, true), (10, false), (11, true), (12, true), (13, true), (14, true), (15, false), (16, true), (17, true), (18, true)] (by kernel_rfl) (by kernel_rfl) ?_
          refine yS (by kernel_rfl : opAt F33.o1 0 = some (some 3, .fieldAddr 25 (.tmp 1) 0, none)) rfl rfl (fun w' hS => val_fieldAddr (off := 0) (by kernel_rfl) rfl) ?_
          refine nS (by kernel_rfl : opAt F33.o1 1 = some (some 4, .load 3 (.tmp 3), none)) rfl rfl trivial (val_loadOwn hx.at_ (by kernel_rfl) rfl rfl) ?_
          refine yS (by kernel_rfl : opAt F33.o1 2 = some (some 5, .binOp .geq 3 (.tmp 4) (.const (.int .i64 0)) 3, none)) rfl rfl (fun w' hS => val_T (val_geq rfl rfl) hA) ?_
          refine yS (by kernel_rfl : opAt F33.o1 3 = some (some 6, .move (.tmp 5), none)) rfl rfl (fun w' hS => val_move rfl) ?_
          refine yS (by kernel_rfl : opAt F33.o1 4 = some (some 7, .fieldAddr 25 (.tmp 1) 0, (some (3, true)))) rfl rfl (fun w' hS => val_fieldAddr (off := 0) (by kernel_rfl) rfl) ?_
          refine nS (by kernel_rfl : opAt F33.o1 5 = some (some 8, .load 3 (.tmp 7), (some (3, true)))) rfl rfl trivial (val_loadOwn hx.at_ (by kernel_rfl) rfl rfl) ?_
          refine yS (by kernel_rfl : opAt F33.o1 6 = some (some 9, .binOp .lss 3 (.tmp 8) (.const (.int .i64 4)) 3, (some (3, true)))) rfl rfl (fun w' hS => val_T (val_lss rfl rfl) hB) ?_
          refine yS (by kernel_rfl : opAt F33.o1 7 = some (some 10, .pick (.tmp 6) (.tmp 9) (.const (.bool false)), none)) rfl rfl (fun w' hS => val_pick_t rfl rfl) ?_
          refine yS (by kernel_rfl : opAt F33.o1 8 = some (some 11, .move (.tmp 10), none)) rfl rfl (fun w' hS => val_move rfl) ?_
          refine yS (by kernel_rfl : opAt F33.o1 9 = some (some 12, .fieldAddr 25 (.tmp 1) 1, (some (8, true)))) rfl rfl (fun w' hS => val_fieldAddr (off := 1) (by kernel_rfl) rfl) ?_
          refine nS (by kernel_rfl : opAt F33.o1 10 = some (some 13, .load 3 (.tmp 12), (some (8, true)))) rfl rfl trivial (val_loadOwn hx.at_ (by kernel_rfl) rfl rfl) ?_
          refine yS (by kernel_rfl : opAt F33.o1 11 = some (some 14, .binOp .geq 3 (.tmp 13) (.const (.int .i64 1)) 3, (some (8, true)))) rfl rfl (fun w' hS => val_T (val_geq rfl rfl) hC) ?_
          refine yS (by kernel_rfl : opAt F33.o1 12 = some (some 15, .pick (.tmp 11) (.tmp 14) (.const (.bool false)), none)) rfl rfl (fun w' hS => val_pick_t rfl rfl) ?_
          refine yS (by kernel_rfl : opAt F33.o1 13 = some (some 16, .move (.tmp 15), none)) rfl rfl (fun w' hS => val_move rfl) ?_
          refine yS (by kernel_rfl : opAt F33.o1 14 = some (some 17, .fieldAddr 25 (.tmp 1) 1, (some (13, true)))) rfl rfl (fun w' hS => val_fieldAddr (off := 1) (by kernel_rfl) rfl) ?_
          refine nS (by kernel_rfl : opAt F33.o1 15 = some (some 18, .load 3 (.tmp 17), (some (13, true)))) rfl rfl trivial (val_loadOwn hx.at_ (by kernel_rfl) rfl rfl) ?_
          refine yS (by kernel_rfl : opAt F33.o1 16 = some (some 19, .binOp .leq 3 (.tmp 18) (.const (.int .i64 1048576)) 3, (some (13, true)))) rfl rfl (fun w' hS => val_leq rfl rfl) ?_
          refine yS (by kernel_rfl : opAt F33.o1 17 = some (some 20, .pick (.tmp 16) (.tmp 19) (.const (.bool false)), none)) rfl rfl (fun w' hS => val_pick_t rfl rfl) ?_
          refine yS (by kernel_rfl : opAt F33.o1 18 = some (some 2, .assign (.tmp 20), none)) rfl rfl (fun w' hS => val_assign rfl) ?_
          exact Sch.nil (hcut _ _ _ (Stp.refl _ _ _) rfl (by unfold refOK; rw [decide_eq_true hA, decide_eq_true hB, decide_eq_true hC]; rfl) (sub_skip rfl (sub_skip rfl (sub_skip rfl (sub_skip rfl (sub_skip rfl (sub_skip rfl (sub_skip rfl (sub_skip rfl (sub_skip rfl (sub_skip rfl (sub_skip rfl (sub_skip rfl (sub_skip rfl (sub_skip rfl (sub_skip rfl (sub_skip rfl (sub_skip rfl (sub_skip rfl (sub_skip rfl (Sub.refl _)))))))))))))))))))))
        · skip
          refine run_plain (id := 1) (ops := F33.o1) [(0, true), (1, false), (2, true), (3, true), (4, true), (5, false), (6, true), (7, true), (8, true), (9, true), (10, false), (11, true), (12, true), (13, true), (14, true), (15, false), (16, true), (17, true), (18, true)] (by kernel_rfl) (by kernel_rfl) ?_
          refine yS (by kernel_rfl : opAt F33.o1 0 = some (some 3, .fieldAddr 25 (.tmp 1) 0, none)) rfl rfl (fun w' hS => val_fieldAddr (off := 0) (by kernel_rfl) rfl) ?_
          refine nS (by kernel_rfl : opAt F33.o1 1 = some (some 4, .load 3 (.tmp 3), none)) rfl rfl trivial (val_loadOwn hx.at_ (by kernel_rfl) rfl rfl) ?_
          refine yS (by kernel_rfl : opAt F33.o1 2 = some (some 5, .binOp .geq 3 (.tmp 4) (.const (.int .i64 0)) 3, none)) rfl rfl (fun w' hS => val_T (val_geq rfl rfl) hA) ?_
          refine yS (by kernel_rfl : opAt F33.o1 3 = some (some 6, .move (.tmp 5), none)) rfl rfl (fun w' hS => val_move rfl) ?_
          refine yS (by kernel_rfl : opAt F33.o1 4 = some (some 7, .fieldAddr 25 (.tmp 1) 0, (some (3, true)))) rfl rfl (fun w' hS => val_fieldAddr (off := 0) (by kernel_rfl) rfl) ?_
          refine nS (by kernel_rfl : opAt F33.o1 5 = some (some 8, .load 3 (.tmp 7), (some (3, true)))) rfl rfl trivial (val_loadOwn hx.at_ (by kernel_rfl) rfl rfl) ?_
          refine yS (by kernel_rfl : opAt F33.o1 6 = some (some 9, .binOp .lss 3 (.tmp 8) (.const (.int .i64 4)) 3, (some (3, true)))) rfl rfl (fun w' hS => val_T (val_lss rfl rfl) hB) ?_
          refine yS (by kernel_rfl : opAt F33.o1 7 = some (some 10, .pick (.tmp 6) (.tmp 9) (.const (.bool false)), none)) rfl rfl (fun w' hS => val_pick_t rfl rfl) ?_
          refine yS (by kernel_rfl : opAt F33.o1 8 = some (some 11, .move (.tmp 10), none)) rfl rfl (fun w' hS => val_move rfl) ?_
          refine yS (by kernel_rfl : opAt F33.o1 9 = some (some 12, .fieldAddr 25 (.tmp 1) 1, (some (8, true)))) rfl rfl (fun w' hS => val_fieldAddr (off := 1) (by kernel_rfl) rfl) ?_
          refine nS (by kernel_rfl : opAt F33.o1 10 = some (some 13, .load 3 (.tmp 12), (some (8, true)))) rfl rfl trivial (val_loadOwn hx.at_ (by kernel_rfl) rfl rfl) ?_
          refine yS (by kernel_rfl : opAt F33.o1 11 = some (some 14, .binOp .geq 3 (.tmp 13) (.const (.int .i64 1)) 3, (some (8, true)))) rfl rfl (fun w' hS => val_F (val_geq rfl rfl) hC) ?_
          refine yS (by kernel_rfl : opAt F33.o1 12 = some (some 15, .pick (.tmp 11) (.tmp 14) (.const (.bool false)), none)) rfl rfl (fun w' hS => val_pick_t rfl rfl) ?_
          refine yS (by kernel_rfl : opAt F33.o1 13 = some (some 16, .move (.tmp 15), none)) rfl rfl (fun w' hS => val_move rfl) ?_
          refine pS (by kernel_rfl : opAt F33.o1 14 = some (some 17, .fieldAddr 25 (.tmp 1) 1, (some (13, true)))) rfl rfl ?_
          refine pW (by kernel_rfl : opAt F33.o1 15 = some (some 18, .load 3 (.tmp 17), (some (13, true)))) rfl rfl trivial ?_
          refine pS (by kernel_rfl : opAt F33.o1 16 = some (some 19, .binOp .leq 3 (.tmp 18) (.const (.int .i64 1048576)) 3, (some (13, true)))) rfl rfl ?_
          refine yS (by kernel_rfl : opAt F33.o1 17 = some (some 20, .pick (.tmp 16) (.tmp 19) (.const (.bool false)), none)) rfl rfl (fun w' hS => val_pick_f rfl rfl) ?_
          refine yS (by kernel_rfl : opAt F33.o1 18 = some (some 2, .assign (.tmp 20), none)) rfl rfl (fun w' hS => val_assign rfl) ?_
          exact Sch.nil (hcut _ _ _ (Stp.refl _ _ _) rfl (by unfold refOK; rw [decide_eq_true hA, decide_eq_true hB, decide_eq_false hC]; rfl) (sub_skip rfl (sub_skip rfl (sub_skip rfl (sub_skip rfl (sub_skip rfl (sub_skip rfl (sub_skip rfl (sub_skip rfl (sub_skip rfl (sub_skip rfl (sub_skip rfl (sub_skip rfl (sub_skip rfl (sub_skip rfl (sub_skip rfl (sub_skip rfl (sub_skip rfl (sub_skip rfl (sub_skip rfl (Sub.refl _)))))))))))))))))))))
      · skip
        refine run_plain (id := 1) (ops := F33.o1) [(0, true), (1, false), (2, true), (3, true), (4, true), (5, false), (6, true), (7, true), (8, true), (9, true), (10, false), (11, true), (12, true), (13, true), (14, true), (15, false), (16, true), (17, true), (18, true)] (by kernel_rfl) (by kernel_rfl) ?_
        refine yS (by kernel_rfl : opAt F33.o1 0 = some (some 3, .fieldAddr 25 (.tmp 1) 0, none)) rfl rfl (fun w' hS => val_fieldAddr (off := 0) (by kernel_rfl) rfl) ?_
        refine nS (by kernel_rfl : opAt F33.o1 1 = some (some 4, .load 3 (.tmp 3), none)) rfl rfl trivial (val_loadOwn hx.at_ (by kernel_rfl) rfl rfl) ?_
        refine yS (by kernel_rfl : opAt F33.o1 2 = some (some 5, .binOp .geq 3 (.tmp 4) (.const (.int .i64 0)) 3, none)) rfl rfl (fun w' hS => val_T (val_geq rfl rfl) hA) ?_
        refine yS (by kernel_rfl : opAt F33.o1 3 = some (some 6, .move (.tmp 5), none)) rfl rfl (fun w' hS => val_move rfl) ?_
        refine yS (by kernel_rfl : opAt F33.o1 4 = some (some 7, .fieldAddr 25 (.tmp 1) 0, (some (3, true)))) rfl rfl (fun w' hS => val_fieldAddr (off := 0) (by kernel_rfl) rfl) ?_
        refine nS (by kernel_rfl : opAt F33.o1 5 = some (some 8, .load 3 (.tmp 7), (some (3, true)))) rfl rfl trivial (val_loadOwn hx.at_ (by kernel_rfl) rfl rfl) ?_
        refine yS (by kernel_rfl : opAt F33.o1 6 = some (some 9, .binOp .lss 3 (.tmp 8) (.const (.int .i64 4)) 3, (some (3, true)))) rfl rfl (fun w' hS => val_F (val_lss rfl rfl) hB) ?_
        refine yS (by kernel_rfl : opAt F33.o1 7 = some (some 10, .pick (.tmp 6) (.tmp 9) (.const (.bool false)), none)) rfl rfl (fun w' hS => val_pick_t rfl rfl) ?_
        refine yS (by kernel_rfl : opAt F33.o1 8 = some (some 11, .move (.tmp 10), none)) rfl rfl (fun w' hS => val_move rfl) ?_
        refine pS (by kernel_rfl : opAt F33.o1 9 = some (some 12, .fieldAddr 25 (.tmp 1) 1, (some (8, true)))) rfl rfl ?_
        refine pW (by kernel_rfl : opAt F33.o1 10 = some (some 13, .load 3 (.tmp 12), (some (8, true)))) rfl rfl trivial ?_
        refine pS (by kernel_rfl : opAt F33.o1 11 = some (some 14, .binOp .geq 3 (.tmp 13) (.const (.int .i64 1)) 3, (some (8, true)))) rfl rfl ?_
        refine yS (by kernel_rfl : opAt F33.o1 12 = some (some 15, .pick (.tmp 11) (.tmp 14) (.const (.bool false)), none)) rfl rfl (fun w' hS => val_pick_f rfl rfl) ?_
        refine yS (by kernel_rfl : opAt F33.o1 13 = some (some 16, .move (.tmp 15), none)) rfl rfl (fun w' hS => val_move rfl) ?_
        refine pS (by kernel_rfl : opAt F33.o1 14 = some (some 17, .fieldAddr 25 (.tmp 1) 1, (some (13, true)))) rfl rfl ?_
        refine pW (by kernel_rfl : opAt F33.o1 15 = some (some 18, .load 3 (.tmp 17), (some (13, true)))) rfl rfl trivial ?_
        refine pS (by kernel_rfl : opAt F33.o1 16 = some (some 19, .binOp .leq 3 (.tmp 18) (.const (.int .i64 1048576)) 3, (some (13, true)))) rfl rfl ?_
        refine yS (by kernel_rfl : opAt F33.o1 17 = some (some 20, .pick (.tmp 16) (.tmp 19) (.const (.bool false)), none)) rfl rfl (fun w' hS => val_pick_f rfl rfl) ?_
        refine yS (by kernel_rfl : opAt F33.o1 18 = some (some 2, .assign (.tmp 20), none)) rfl rfl (fun w' hS => val_assign rfl) ?_
        exact Sch.nil (hcut _ _ _ (Stp.refl _ _ _) rfl (by unfold refOK; rw [decide_eq_true hA, decide_eq_false hB]; rfl) (sub_skip rfl (sub_skip rfl (sub_skip rfl (sub_skip rfl (sub_skip rfl (sub_skip rfl (sub_skip rfl (sub_skip rfl (sub_skip rfl (sub_skip rfl (sub_skip rfl (sub_skip rfl (sub_skip rfl (sub_skip rfl (sub_skip rfl (sub_skip rfl (sub_skip rfl (sub_skip rfl (sub_skip rfl (Sub.refl _)))))))))))))))))))))
    · skip
      refine run_plain (id := 1) (ops := F33.o1) [(0, true), (1, false), (2, true), (3, true), (4, true), (5, false), (6, true), (7, true), (8, true), (9, true), (10, false), (11, true), (12, true), (13, true), (14, true), (15, false), (16, true), (17, true), (18, true)] (by kernel_rfl) (by kernel_rfl) ?_
      refine yS (by kernel_rfl : opAt F33.o1 0 = some (some 3, .fieldAddr 25 (.tmp 1) 0, none)) rfl rfl (fun w' hS => val_fieldAddr (off := 0) (by kernel_rfl) rfl) ?_
      refine nS (by kernel_rfl : opAt F33.o1 1 = some (some 4, .load 3 (.tmp 3), none)) rfl rfl trivial (val_loadOwn hx.at_ (by kernel_rfl) rfl rfl) ?_
      refine yS (by kernel_rfl : opAt F33.o1 2 = some (some 5, .binOp .geq 3 (.tmp 4) (.const (.int .i64 0)) 3, none)) rfl rfl (fun w' hS => val_F (val_geq rfl rfl) hA) ?_
      refine yS (by kernel_rfl : opAt F33.o1 3 = some (some 6, .move (.tmp 5), none)) rfl rfl (fun w' hS => val_move rfl) ?_
      refine pS (by kernel_rfl : opAt F33.o1 4 = some (some 7, .fieldAddr 25 (.tmp 1) 0, (some (3, true)))) rfl rfl ?_
      refine pW (by kernel_rfl : opAt F33.o1 5 = some (some 8, .load 3 (.tmp 7), (some (3, true)))) rfl rfl trivial ?_
      refine pS (by kernel_rfl : opAt F33.o1 6 = some (some 9, .binOp .lss 3 (.tmp 8) (.const (.int .i64 4)) 3, (some (3, true)))) rfl rfl ?_
      refine yS (by kernel_rfl : opAt F33.o1 7 = some (some 10, .pick (.tmp 6) (.tmp 9) (.const (.bool false)), none)) rfl rfl (fun w' hS => val_pick_f rfl rfl) ?_
      refine yS (by kernel_rfl : opAt F33.o1 8 = some (some 11, .move (.tmp 10), none)) rfl rfl (fun w' hS => val_move rfl) ?_
      refine pS (by kernel_rfl : opAt F33.o1 9 = some (some 12, .fieldAddr 25 (.tmp 1) 1, (some (8, true)))) rfl rfl ?_
      refine pW (by kernel_rfl : opAt F33.o1 10 = some (some 13, .load 3 (.tmp 12), (some (8, true)))) rfl rfl trivial ?_
      refine pS (by kernel_rfl : opAt F33.o1 11 = some (some 14, .binOp .geq 3 (.tmp 13) (.const (.int .i64 1)) 3, (some (8, true)))) rfl rfl ?_
      refine yS (by kernel_rfl : opAt F33.o1 12 = some (some 15, .pick (.tmp 11) (.tmp 14) (.const (.bool false)), none)) rfl rfl (fun w' hS => val_pick_f rfl rfl) ?_
      refine yS (by kernel_rfl : opAt F33.o1 13 = some (some 16, .move (.tmp 15), none)) rfl rfl (fun w' hS => val_move rfl) ?_
      refine pS (by kernel_rfl : opAt F33.o1 14 = some (some 17, .fieldAddr 25 (.tmp 1) 1, (some (13, true)))) rfl rfl ?_
      refine pW (by kernel_rfl : opAt F33.o1 15 = some (some 18, .load 3 (.tmp 17), (some (13, true)))) rfl rfl trivial ?_
      refine pS (by kernel_rfl : opAt F33.o1 16 = some (some 19, .binOp .leq 3 (.tmp 18) (.const (.int .i64 1048576)) 3, (some (13, true)))) rfl rfl ?_
      refine yS (by kernel_rfl : opAt F33.o1 17 = some (some 20, .pick (.tmp 16) (.tmp 19) (.const (.bool false)), none)) rfl rfl (fun w' hS => val_pick_f rfl rfl) ?_
      refine yS (by kernel_rfl : opAt F33.o1 18 = some (some 2, .assign (.tmp 20), none)) rfl rfl (fun w' hS => val_assign rfl) ?_
      exact Sch.nil (hcut _ _ _ (Stp.refl _ _ _) rfl (by unfold refOK; rw [decide_eq_false hA]; rfl) (sub_skip rfl (sub_skip rfl (sub_skip rfl (sub_skip rfl (sub_skip rfl (sub_skip rfl (sub_skip rfl (sub_skip rfl (sub_skip rfl (sub_skip rfl (sub_skip rfl (sub_skip rfl (sub_skip rfl (sub_skip rfl (sub_skip rfl (sub_skip rfl (sub_skip rfl (sub_skip rfl (sub_skip rfl (Sub.refl _)))))))))))))))))))))
  intro w2 hs
  replace hF := hF.st hs
  replace hT := hT.trans hs (by simp)
  replace hx := hx.st hs (by first | decide | (simp <;> omega))
  refine run_ret1 (by kernel_rfl) Try.func33 Try.results33 rfl ?_
  exact ⟨rfl, hT.out1 (by decide)⟩
namespace F31
noncomputable def c0 : Code := bodyOf Try.f31
noncomputable def c1 : Code := cl c0
noncomputable def o0 : Array Oper := rops c1
noncomputable def c2 : Code := cr c0
noncomputable def c3 : Code := cl c2
noncomputable def o1 : Array Oper := rops c3
noncomputable def c4 : Code := cr c2
end F31
theorem couple_ok {w₀ : World} {C : Nat → Nat} {x y : Couple} (hF : Lim w₀ C) : Calls Try.prog 31 #[.agg #[.int .i64 x.a, .int .i64 x.b], .agg #[.int .i64 y.a, .int .i64 y.b]] w₀ (Ret fun v w' => v = .bool (cplOK x y) ∧ Stp [] w₀ C w' C) := by
  have hF0 := hF
  have hT := Stp.refl [2, 3, 4, 5, 6, 7, 8, 9] w₀ (col1 C)
  replace hF := hF.col1
  refine calls_start (c := F31.c0) (N := 18) [.agg #[.int .i64 x.a, .int .i64 x.b], .agg #[.int .i64 y.a, .int .i64 y.b]] Try.func31 (by kernel_rfl) (by kernel_rfl) (by kernel_rfl) ?_
  show Run _ _ _ _ [(0, .agg #[.int .i64 x.a, .int .i64 x.b]), (1, .agg #[.int .i64 y.a, .int .i64 y.b])] _ _
  refine run_seq (x := F31.c1) (y := F31.c2) (by kernel_rfl) ?_
  refine run_plain (id := 0) (ops := F31.o0) [(0, false), (1, false), (2, true)] (by kernel_rfl) (by kernel_rfl) ?_
  refine aS (by kernel_rfl : opAt F31.o0 0 = some (some 2, .box 25 (.tmp 0), none)) rfl rfl (a_box (cs := [.int .i64 x.a, .int .i64 x.b]) hF 3 rfl rfl) ?_
  rintro _ w1 ⟨Cw1, bw1, rfl, hs, hx, hF⟩
  refine ⟨trivial, ?_⟩
  replace hT := hT.trans hs (by simp)
  refine aS (by kernel_rfl : opAt F31.o0 1 = some (some 3, .box 25 (.tmp 1), none)) rfl rfl (a_box (cs := [.int .i64 y.a, .int .i64 y.b]) hF 3 rfl rfl) ?_
  rintro _ w2 ⟨Cw2, bw2, rfl, hs, hy, hF⟩
  refine ⟨trivial, ?_⟩
  replace hT := hT.trans hs (by simp)
  replace hx := hx.st hs (by first | decide | (simp <;> omega))
  refine yS (by kernel_rfl : opAt F31.o0 2 = some (some 4, .assign (.const (.bool false)), none)) rfl rfl (fun w' hS => val_assign rfl) ?_
  refine Sch.nil ?_
  refine kp (sub_cons 2 rfl rfl (sub_cons 3 rfl rfl (sub_nil _))) ?_
  refine run_seq (x := F31.c3) (y := F31.c4) (by kernel_rfl) ?_
  refine run_cut 4 (cplOK x y) (Cw2) ?_ ?_
  · intro hcut
    by_cases hA : refOK x = true
    · skip
      by_cases hB : refOK y = true
      · skip
        refine run_plain (id := 1) (ops := F31.o1) [(0, false), (1, false), (2, true), (3, false), (4, false), (5, true), (6, true), (7, true), (8, false), (9, true), (10, false), (11, true), (12, true), (13, true)] (by kernel_rfl) (by kernel_rfl) ?_
        have hcs := Stp.reflF hF
        refine nS (by kernel_rfl : opAt F31.o1 0 = some (some 5, .load 25 (.tmp 2), none)) rfl rfl trivial (val_loadOwnAgg (n := 2) hx.at_ (by kernel_rfl) (by kernel_rfl) rfl rfl rfl) ?_
        refine cS (by kernel_rfl : opAt F31.o1 1 = some (some 6, .call { callee := .value (.func 46), args := #[(.tmp 5)], argTypes := #[25] }, none)) rfl rfl (ent Try.call46 rfl) (greyRef_ok hF) ?_
        rintro vw3 w3 ⟨rfl, hs⟩
        rw [hA]
        refine ⟨trivial, ?_⟩
        replace hF := hF.st hs
        replace hT := hT.trans hs (by simp)
        replace hx := hx.st hs (by first | decide | (simp <;> omega))
        replace hy := hy.st hs (by first | decide | (simp <;> omega))
        replace hcs := hcs.trans hs (by simp)
        refine yS (by kernel_rfl : opAt F31.o1 2 = some (some 7, .move (.tmp 6), none)) rfl rfl (fun w' hS => val_move rfl) ?_
        refine nS (by kernel_rfl : opAt F31.o1 3 = some (some 8, .load 25 (.tmp 3), (some (2, true)))) rfl rfl trivial (val_loadOwnAgg (n := 2) hy.at_ (by kernel_rfl) (by kernel_rfl) rfl rfl rfl) ?_
        refine cS (by kernel_rfl : opAt F31.o1 4 = some (some 9, .call { callee := .value (.func 46), args := #[(.tmp 8)], argTypes := #[25] }, (some (2, true)))) rfl rfl (ent Try.call46 rfl) (greyRef_ok hF) ?_
        rintro vw4 w4 ⟨rfl, hs⟩
        rw [hB]
        refine ⟨trivial, ?_⟩
        replace hF := hF.st hs
        replace hT := hT.trans hs (by simp)
        replace hx := hx.st hs (by first | decide | (simp <;> omega))
        replace hy := hy.st hs (by first | decide | (simp <;> omega))
        replace hcs := hcs.trans hs (by simp)
        refine yS (by kernel_rfl : opAt F31.o1 5 = some (some 10, .pick (.tmp 7) (.tmp 9) (.const (.bool false)), none)) rfl rfl (fun w' hS => val_pick_t rfl rfl) ?_
        refine yS (by kernel_rfl : opAt F31.o1 6 = some (some 11, .move (.tmp 10), none)) rfl rfl (fun w' hS => val_move rfl) ?_
        refine yS (by kernel_rfl : opAt F31.o1 7 = some (some 12, .fieldAddr 25 (.tmp 2) 0, (some (6, true)))) rfl rfl (fun w' hS => val_fieldAddr (off := 0) (by kernel_rfl) rfl) ?_
        refine nS (by kernel_rfl : opAt F31.o1 8 = some (some 13, .load 3 (.tmp 12), (some (6, true)))) rfl rfl trivial (val_loadOwn hx.at_ (by kernel_rfl) rfl rfl) ?_
        refine yS (by kernel_rfl : opAt F31.o1 9 = some (some 14, .fieldAddr 25 (.tmp 3) 0, (some (6, true)))) rfl rfl (fun w' hS => val_fieldAddr (off := 0) (by kernel_rfl) rfl) ?_
        refine nS (by kernel_rfl : opAt F31.o1 10 = some (some 15, .load 3 (.tmp 14), (some (6, true)))) rfl rfl trivial (val_loadOwn hy.at_ (by kernel_rfl) rfl rfl) ?_
        refine yS (by kernel_rfl : opAt F31.o1 11 = some (some 16, .binOp .lss 3 (.tmp 13) (.tmp 15) 3, (some (6, true)))) rfl rfl (fun w' hS => val_lss rfl rfl) ?_
        refine yS (by kernel_rfl : opAt F31.o1 12 = some (some 17, .pick (.tmp 11) (.tmp 16) (.const (.bool false)), none)) rfl rfl (fun w' hS => val_pick_t rfl rfl) ?_
        refine yS (by kernel_rfl : opAt F31.o1 13 = some (some 4, .assign (.tmp 17), none)) rfl rfl (fun w' hS => val_assign rfl) ?_
        exact Sch.nil (hcut _ _ _ hcs rfl (by unfold cplOK; rw [hA, hB]; rfl) (sub_skip rfl (sub_skip rfl (sub_skip rfl (sub_skip rfl (sub_skip rfl (sub_skip rfl (sub_skip rfl (sub_skip rfl (sub_skip rfl (sub_skip rfl (sub_skip rfl (sub_skip rfl (sub_skip rfl (sub_skip rfl (Sub.refl _))))))))))))))))
      · skip
        refine run_plain (id := 1) (ops := F31.o1) [(0, false), (1, false), (2, true), (3, false), (4, false), (5, true), (6, true), (7, true), (8, false), (9, true), (10, false), (11, true), (12, true), (13, true)] (by kernel_rfl) (by kernel_rfl) ?_
        have hcs := Stp.reflF hF
        refine nS (by kernel_rfl : opAt F31.o1 0 = some (some 5, .load 25 (.tmp 2), none)) rfl rfl trivial (val_loadOwnAgg (n := 2) hx.at_ (by kernel_rfl) (by kernel_rfl) rfl rfl rfl) ?_
        refine cS (by kernel_rfl : opAt F31.o1 1 = some (some 6, .call { callee := .value (.func 46), args := #[(.tmp 5)], argTypes := #[25] }, none)) rfl rfl (ent Try.call46 rfl) (greyRef_ok hF) ?_
        rintro vw5 w5 ⟨rfl, hs⟩
        rw [hA]
        refine ⟨trivial, ?_⟩
        replace hF := hF.st hs
        replace hT := hT.trans hs (by simp)
        replace hx := hx.st hs (by first | decide | (simp <;> omega))
        replace hy := hy.st hs (by first | decide | (simp <;> omega))
        replace hcs := hcs.trans hs (by simp)
        refine yS (by kernel_rfl : opAt F31.o1 2 = some (some 7, .move (.tmp 6), none)) rfl rfl (fun w' hS => val_move rfl) ?_
        refine nS (by kernel_rfl : opAt F31.o1 3 = some (some 8, .load 25 (.tmp 3), (some (2, true)))) rfl rfl trivial (val_loadOwnAgg (n := 2) hy.at_ (by kernel_rfl) (by kernel_rfl) rfl rfl rfl) ?_
        refine cS (by kernel_rfl : opAt F31.o1 4 = some (some 9, .call { callee := .value (.func 46), args := #[(.tmp 8)], argTypes := #[25] }, (some (2, true)))) rfl rfl (ent Try.call46 rfl) (greyRef_ok hF) ?_
        rintro vw6 w6 ⟨rfl, hs⟩
        rw [Bool.eq_false_iff.2 hB]
        refine ⟨trivial, ?_⟩
        replace hF := hF.st hs
        replace hT := hT.trans hs (by simp)
        replace hx := hx.st hs (by first | decide | (simp <;> omega))
        replace hy := hy.st hs (by first | decide | (simp <;> omega))
        replace hcs := hcs.trans hs (by simp)
        refine yS (by kernel_rfl : opAt F31.o1 5 = some (some 10, .pick (.tmp 7) (.tmp 9) (.const (.bool false)), none)) rfl rfl (fun w' hS => val_pick_t rfl rfl) ?_
        refine yS (by kernel_rfl : opAt F31.o1 6 = some (some 11, .move (.tmp 10), none)) rfl rfl (fun w' hS => val_move rfl) ?_
        refine pS (by kernel_rfl : opAt F31.o1 7 = some (some 12, .fieldAddr 25 (.tmp 2) 0, (some (6, true)))) rfl rfl ?_
        refine pW (by kernel_rfl : opAt F31.o1 8 = some (some 13, .load 3 (.tmp 12), (some (6, true)))) rfl rfl trivial ?_
        refine pS (by kernel_rfl : opAt F31.o1 9 = some (some 14, .fieldAddr 25 (.tmp 3) 0, (some (6, true)))) rfl rfl ?_
        refine pW (by kernel_rfl : opAt F31.o1 10 = some (some 15, .load 3 (.tmp 14), (some (6, true)))) rfl rfl trivial ?_
        refine pS (by kernel_rfl : opAt F31.o1 11 = some (some 16, .binOp .lss 3 (.tmp 13) (.tmp 15) 3, (some (6, true)))) rfl rfl ?_
        refine yS (by kernel_rfl : opAt F31.o1 12 = some (some 17, .pick (.tmp 11) (.tmp 16) (.const (.bool false)), none)) rfl rfl (fun w' hS => val_pick_f rfl rfl) ?_
        refine yS (by kernel_rfl : opAt F31.o1 13 = some (some 4, .assign (.tmp 17), none)) rfl rfl (fun w' hS => val_assign rfl) ?_
        exact Sch.nil (hcut _ _ _ hcs rfl (by unfold cplOK; rw [hA, Bool.eq_false_iff.2 hB]; simp) (sub_skip rfl (sub_skip rfl (sub_skip rfl (sub_skip rfl (sub_skip rfl (sub_skip rfl (sub_skip rfl (sub_skip rfl (sub_skip rfl (sub_skip rfl (sub_skip rfl (sub_skip rfl (sub_skip rfl (sub_skip rfl (Sub.refl _))))))))))))))))
    · skip
      refine run_plain (id := 1) (ops := F31.o1) [(0, false), (1, false), (2, true), (3, false), (4, false), (5, true), (6, true), (7, true), (8, false), (9, true), (10, false), (11, true), (12, true), (13, true)] (by kernel_rfl) (by kernel_rfl) ?_
      have hcs := Stp.reflF hF
      refine nS (by kernel_rfl : opAt F31.o1 0 = some (some 5, .load 25 (.tmp 2), none)) rfl rfl trivial (val_loadOwnAgg (n := 2) hx.at_ (by kernel_rfl) (by kernel_rfl) rfl rfl rfl) ?_
      refine cS (by kernel_rfl : opAt F31.o1 1 = some (some 6, .call { callee := .value (.func 46), args := #[(.tmp 5)], argTypes := #[25] }, none)) rfl rfl (ent Try.call46 rfl) (greyRef_ok hF) ?_
      rintro vw7 w7 ⟨rfl, hs⟩
      rw [Bool.eq_false_iff.2 hA]
      refine ⟨trivial, ?_⟩
      replace hF := hF.st hs
      replace hT := hT.trans hs (by simp)
      replace hx := hx.st hs (by first | decide | (simp <;> omega))
      replace hy := hy.st hs (by first | decide | (simp <;> omega))
      replace hcs := hcs.trans hs (by simp)
      refine yS (by kernel_rfl : opAt F31.o1 2 = some (some 7, .move (.tmp 6), none)) rfl rfl (fun w' hS => val_move rfl) ?_
      refine pW (by kernel_rfl : opAt F31.o1 3 = some (some 8, .load 25 (.tmp 3), (some (2, true)))) rfl rfl trivial ?_
      refine pW (by kernel_rfl : opAt F31.o1 4 = some (some 9, .call { callee := .value (.func 46), args := #[(.tmp 8)], argTypes := #[25] }, (some (2, true)))) rfl rfl trivial ?_
      refine yS (by kernel_rfl : opAt F31.o1 5 = some (some 10, .pick (.tmp 7) (.tmp 9) (.const (.bool false)), none)) rfl rfl (fun w' hS => val_pick_f rfl rfl) ?_
      refine yS (by kernel_rfl : opAt F31.o1 6 = some (some 11, .move (.tmp 10), none)) rfl rfl (fun w' hS => val_move rfl) ?_
      refine pS (by kernel_rfl : opAt F31.o1 7 = some (some 12, .fieldAddr 25 (.tmp 2) 0, (some (6, true)))) rfl rfl ?_
      refine pW (by kernel_rfl : opAt F31.o1 8 = some (some 13, .load 3 (.tmp 12), (some (6, true)))) rfl rfl trivial ?_
      refine pS (by kernel_rfl : opAt F31.o1 9 = some (some 14, .fieldAddr 25 (.tmp 3) 0, (some (6, true)))) rfl rfl ?_
      refine pW (by kernel_rfl : opAt F31.o1 10 = some (some 15, .load 3 (.tmp 14), (some (6, true)))) rfl rfl trivial ?_
      refine pS (by kernel_rfl : opAt F31.o1 11 = some (some 16, .binOp .lss 3 (.tmp 13) (.tmp 15) 3, (some (6, true)))) rfl rfl ?_
      refine yS (by kernel_rfl : opAt F31.o1 12 = some (some 17, .pick (.tmp 11) (.tmp 16) (.const (.bool false)), none)) rfl rfl (fun w' hS => val_pick_f rfl rfl) ?_
      refine yS (by kernel_rfl : opAt F31.o1 13 = some (some 4, .assign (.tmp 17), none)) rfl rfl (fun w' hS => val_assign rfl) ?_
      exact Sch.nil (hcut _ _ _ hcs rfl (by unfold cplOK; rw [Bool.eq_false_iff.2 hA]; simp) (sub_skip rfl (sub_skip rfl (sub_skip rfl (sub_skip rfl (sub_skip rfl (sub_skip rfl (sub_skip rfl (sub_skip rfl (sub_skip rfl (sub_skip rfl (sub_skip rfl (sub_skip rfl (sub_skip rfl (sub_skip rfl (Sub.refl _))))))))))))))))
  intro w8 hs
  replace hF := hF.st hs
  replace hT := hT.trans hs (by simp)
  replace hx := hx.st hs (by first | decide | (simp <;> omega))
  replace hy := hy.st hs (by first | decide | (simp <;> omega))
  refine run_ret1 (by kernel_rfl) Try.func31 Try.results31 rfl ?_
  exact ⟨rfl, hT.out1 (by decide)⟩
namespace F32
noncomputable def c0 : Code := bodyOf Try.f32
noncomputable def c1 : Code := cl c0
noncomputable def o0 : Array Oper := rops c1
noncomputable def c2 : Code := cr c0
noncomputable def c3 : Code := cl c2
noncomputable def o1 : Array Oper := rops c3
noncomputable def c4 : Code := cr c2
end F32
theorem couples_ok {w₀ : World} {C : Nat → Nat} {a b c d : Couple} (hF : Lim w₀ C) : Calls Try.prog 32 #[.agg #[.int .i64 a.a, .int .i64 a.b], .agg #[.int .i64 b.a, .int .i64 b.b], .agg #[.int .i64 c.a, .int .i64 c.b], .agg #[.int .i64 d.a, .int .i64 d.b]] w₀ (Ret fun v w' => v = .int .i64 (cmp2 a b c d) ∧ Stp [] w₀ C w' C) := by
  have hF0 := hF
  have hT := Stp.refl [2, 3, 4, 5, 6, 7, 8, 9] w₀ (col1 C)
  replace hF := hF.col1
  refine calls_start (c := F32.c0) (N := 17) [.agg #[.int .i64 a.a, .int .i64 a.b], .agg #[.int .i64 b.a, .int .i64 b.b], .agg #[.int .i64 c.a, .int .i64 c.b], .agg #[.int .i64 d.a, .int .i64 d.b]] Try.func32 (by kernel_rfl) (by kernel_rfl) (by kernel_rfl) ?_
  show Run _ _ _ _ [(0, .agg #[.int .i64 a.a, .int .i64 a.b]), (1, .agg #[.int .i64 b.a, .int .i64 b.b]), (2, .agg #[.int .i64 c.a, .int .i64 c.b]), (3, .agg #[.int .i64 d.a, .int .i64 d.b])] _ _
  refine run_seq (x := F32.c1) (y := F32.c2) (by kernel_rfl) ?_
  refine run_plain (id := 0) (ops := F32.o0) [(0, false), (1, false), (2, false), (3, false), (4, true)] (by kernel_rfl) (by kernel_rfl) ?_
  refine aS (by kernel_rfl : opAt F32.o0 0 = some (some 4, .box 25 (.tmp 0), none)) rfl rfl (a_box (cs := [.int .i64 a.a, .int .i64 a.b]) hF 3 rfl rfl) ?_
  rintro _ w1 ⟨Cw1, bw1, rfl, hs, ha, hF⟩
  refine ⟨trivial, ?_⟩
  replace hT := hT.trans hs (by simp)
  refine aS (by kernel_rfl : opAt F32.o0 1 = some (some 5, .box 25 (.tmp 1), none)) rfl rfl (a_box (cs := [.int .i64 b.a, .int .i64 b.b]) hF 3 rfl rfl) ?_
  rintro _ w2 ⟨Cw2, bw2, rfl, hs, hb, hF⟩
  refine ⟨trivial, ?_⟩
  replace hT := hT.trans hs (by simp)
  replace ha := ha.st hs (by first | decide | (simp <;> omega))
  refine aS (by kernel_rfl : opAt F32.o0 2 = some (some 6, .box 25 (.tmp 2), none)) rfl rfl (a_box (cs := [.int .i64 c.a, .int .i64 c.b]) hF 3 rfl rfl) ?_
  rintro _ w3 ⟨Cw3, bw3, rfl, hs, hc, hF⟩
  refine ⟨trivial, ?_⟩
  replace hT := hT.trans hs (by simp)
  replace ha := ha.st hs (by first | decide | (simp <;> omega))
  replace hb := hb.st hs (by first | decide | (simp <;> omega))
  refine aS (by kernel_rfl : opAt F32.o0 3 = some (some 7, .box 25 (.tmp 3), none)) rfl rfl (a_box (cs := [.int .i64 d.a, .int .i64 d.b]) hF 3 rfl rfl) ?_
  rintro _ w4 ⟨Cw4, bw4, rfl, hs, hd, hF⟩
  refine ⟨trivial, ?_⟩
  replace hT := hT.trans hs (by simp)
  replace ha := ha.st hs (by first | decide | (simp <;> omega))
  replace hb := hb.st hs (by first | decide | (simp <;> omega))
  replace hc := hc.st hs (by first | decide | (simp <;> omega))
  refine yS (by kernel_rfl : opAt F32.o0 4 = some (some 8, .assign (.const (.int .i64 0)), none)) rfl rfl (fun w' hS => val_assign rfl) ?_
  refine Sch.nil ?_
  refine run_seq (x := F32.c3) (y := F32.c4) (by kernel_rfl) ?_
  refine run_draw (id := 1) (ops := F32.o1) [] (Cw4) [(0, true), (1, true), (3, true), (4, true), (2, false), (5, false), (6, false), (7, false), (8, true)] Try_mixed (by kernel_rfl) (by kernel_rfl) (by kernel_rfl) ?_
  intro w5 hs
  replace hF := hF.st hs
  replace hT := hT.trans hs (by simp)
  replace ha := ha.st hs (by first | decide | (simp <;> omega))
  replace hb := hb.st hs (by first | decide | (simp <;> omega))
  replace hc := hc.st hs (by first | decide | (simp <;> omega))
  replace hd := hd.st hs (by first | decide | (simp <;> omega))
  have hR := Stp.refl [] w5 (Cw4)
  refine yS (by kernel_rfl : opAt F32.o1 0 = some (some 9, .load 25 (.tmp 4), none)) rfl rfl (fun w' hS => val_loadOwnAgg (n := 2) (ha.stay hS (by decide)) (by kernel_rfl) (by kernel_rfl) rfl rfl rfl) ?_
  refine yS (by kernel_rfl : opAt F32.o1 1 = some (some 10, .load 25 (.tmp 6), none)) rfl rfl (fun w' hS => val_loadOwnAgg (n := 2) (hc.stay hS (by decide)) (by kernel_rfl) (by kernel_rfl) rfl rfl rfl) ?_
  refine yS (by kernel_rfl : opAt F32.o1 3 = some (some 12, .load 25 (.tmp 5), none)) rfl rfl (fun w' hS => val_loadOwnAgg (n := 2) (hb.stay hS (by decide)) (by kernel_rfl) (by kernel_rfl) rfl rfl rfl) ?_
  refine yS (by kernel_rfl : opAt F32.o1 4 = some (some 13, .load 25 (.tmp 7), none)) rfl rfl (fun w' hS => val_loadOwnAgg (n := 2) (hd.stay hS (by decide)) (by kernel_rfl) (by kernel_rfl) rfl rfl rfl) ?_
  refine cS (by kernel_rfl : opAt F32.o1 2 = some (some 11, .call { callee := .value (.func 35), args := #[(.tmp 9), (.tmp 10)], argTypes := #[25, 25] }, none)) rfl rfl (ent Try.call35 rfl) (compare_ok hF) ?_
  rintro vw6 w6 ⟨rfl, hs⟩
  refine ⟨(hR.trans hs (by simp)).ext, ?_⟩
  replace hF := hF.st hs
  replace hT := hT.trans hs (by simp)
  replace ha := ha.st hs (by first | decide | (simp <;> omega))
  replace hb := hb.st hs (by first | decide | (simp <;> omega))
  replace hc := hc.st hs (by first | decide | (simp <;> omega))
  replace hd := hd.st hs (by first | decide | (simp <;> omega))
  replace hR := hR.trans hs (by simp)
  refine cS (by kernel_rfl : opAt F32.o1 5 = some (some 14, .call { callee := .value (.func 35), args := #[(.tmp 12), (.tmp 13)], argTypes := #[25, 25] }, none)) rfl rfl (ent Try.call35 rfl) (compare_ok hF) ?_
  rintro vw7 w7 ⟨rfl, hs⟩
  refine ⟨(hR.trans hs (by simp)).ext, ?_⟩
  replace hF := hF.st hs
  replace hT := hT.trans hs (by simp)
  replace ha := ha.st hs (by first | decide | (simp <;> omega))
  replace hb := hb.st hs (by first | decide | (simp <;> omega))
  replace hc := hc.st hs (by first | decide | (simp <;> omega))
  replace hd := hd.st hs (by first | decide | (simp <;> omega))
  replace hR := hR.trans hs (by simp)
  refine aS (by kernel_rfl : opAt F32.o1 6 = some (some 15, .buildSlice 22 2 #[(0, (.tmp 11)), (1, (.tmp 14))], none)) rfl rfl (a_buildSlice (ys := ([cmpC a c, cmpC b d] : List Int)) (e := 3) (bytes := 8) hF (by kernel_rfl) rfl (by decide) (by decide) ⟨rfl, ⟨_, rfl, rv_int.2 rfl⟩, rfl, ⟨_, rfl, rv_int.2 rfl⟩, trivial⟩) ?_
  rintro v15 w8 ⟨hs, g15, hF⟩
  refine ⟨(hR.trans hs (by simp)).ext, ?_⟩
  replace hT := hT.trans hs (by simp)
  replace ha := ha.st hs (by first | decide | (simp <;> omega))
  replace hb := hb.st hs (by first | decide | (simp <;> omega))
  replace hc := hc.st hs (by first | decide | (simp <;> omega))
  replace hd := hd.st hs (by first | decide | (simp <;> omega))
  replace hR := hR.trans hs (by simp)
  refine cS (by kernel_rfl : opAt F32.o1 7 = some (some 16, .call { callee := .value (.func 47), args := #[(.tmp 15)], argTypes := #[22] }, none)) rfl rfl (ent Try.call47 rfl) (orI_ok g15) ?_
  rintro vw9 w9 ⟨rfl, rfl⟩
  refine ⟨hR.ext, ?_⟩
  refine yS (by kernel_rfl : opAt F32.o1 8 = some (some 8, .assign (.tmp 16), none)) rfl rfl (fun w' hS => val_assign rfl) ?_
  refine Sch.nil ?_
  refine run_ret1 (by kernel_rfl) Try.func32 Try.results32 rfl ?_
  exact ⟨rfl, hT.out1 (by decide)⟩
end Go.Proofs.Ytfmdkdfhnkennaa

