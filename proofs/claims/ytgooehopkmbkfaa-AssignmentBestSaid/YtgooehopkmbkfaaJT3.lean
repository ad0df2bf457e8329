/- Steps through functions of the program. -/
import Derived.Test.YtgooehopkmbkfaaJT2
import Derived.Test.YtgooehopkmbkfaaL2
set_option linter.unusedVariables false
set_option linter.unusedSimpArgs false
set_option maxRecDepth 100000
set_option maxHeartbeats 4000000
namespace Go.Proofs.Ytgooehopkmbkfaa
open Go.K Go.K.Rep

namespace F58
noncomputable def c0 : Code := bodyOf Try.f58
noncomputable def c1 : Code := cl c0
noncomputable def o0 : Array Oper := rops c1
noncomputable def c2 : Code := cr c0
noncomputable def c3 : Code := cl c2
noncomputable def c4 : Code := cl c3
noncomputable def o1 : Array Oper := rops c4
noncomputable def c5 : Code := cr c3
noncomputable def c6 : Code := cl c5
noncomputable def o2 : Array Oper := rops c6
noncomputable def c7 : Code := cr c5
noncomputable def c8 : Code := cr c2
noncomputable def c9 : Code := cl c8
noncomputable def o3 : Array Oper := rops c9
noncomputable def c10 : Code := cr c8
noncomputable def c11 : Code := cl c10
noncomputable def c12 : Code := cl c11
noncomputable def o4 : Array Oper := rops c12
noncomputable def c13 : Code := cr c11
noncomputable def c14 : Code := cl c13
noncomputable def c15 : Code := cl c14
noncomputable def c16 : Code := cl c15
noncomputable def c17 : Code := cl c16
noncomputable def o5 : Array Oper := rops c17
noncomputable def c18 : Code := cr c16
noncomputable def c19 : Code := cl c18
noncomputable def c20 : Code := cr c18
noncomputable def c21 : Code := cr c15
noncomputable def c22 : Code := cl c21
noncomputable def c23 : Code := cl c22
noncomputable def o7 : Array Oper := rops c23
noncomputable def c24 : Code := cr c21
noncomputable def o6 : Array Oper := rops c24
noncomputable def c25 : Code := cr c10
noncomputable def c26 : Code := cl c25
noncomputable def o8 : Array Oper := rops c26
noncomputable def c27 : Code := cr c25
end F58
/-- 'slices.Max'. -/
theorem max_ok {w₀ : World} {M : Nat → Prop} {l : List Int} {vl : Value} (hl : RV w₀ M l vl) (h0 : 0 < l.length) : Calls Try.prog 58 #[vl] w₀ (Ret fun v w' => ∃ z : Int, v = .int .i64 z ∧ w' = w₀ ∧ (∀ q (hq : q < l.length), l[q] ≤ z) ∧ ∃ q, ∃ hq : q < l.length, l[q] = z) := by
  have hll := hl.le
  refine calls_start (c := F58.c0) (N := 25) [vl] Try.func58 (by kernel_rfl) (by kernel_rfl) (by kernel_rfl) ?_
  show Run _ _ _ _ [(0, vl)] _ _
  refine run_seq (x := F58.c1) (y := F58.c2) (by kernel_rfl) ?_
  refine run_plain (id := 0) (ops := F58.o0) [(0, true)] (by kernel_rfl) (by kernel_rfl) ?_
  refine yS (by kernel_rfl : opAt F58.o0 0 = some (some 2, .assign (.const (.int .i64 0)), none)) rfl rfl (fun w' hS => val_assign rfl) ?_
  refine Sch.nil ?_
  refine run_seq (x := F58.c3) (y := F58.c8) (by kernel_rfl) ?_
  refine run_seq (x := F58.c4) (y := F58.c5) (by kernel_rfl) ?_
  refine run_plain (id := 1) (ops := F58.o1) [(0, true), (1, true), (2, true)] (by kernel_rfl) (by kernel_rfl) ?_
  refine yS (by kernel_rfl : opAt F58.o1 0 = some (some 5, .move (.tmp 0), none)) rfl rfl (fun w' hS => val_move rfl) ?_
  refine yS (by kernel_rfl : opAt F58.o1 1 = some (some 6, .call { callee := .builtin .len, args := #[(.tmp 5)], argTypes := #[22] }, none)) rfl rfl (fun w' hS => hl.lenV rfl Try.underlying22 w' ) ?_
  refine yS (by kernel_rfl : opAt F58.o1 2 = some (some 7, .binOp .lss 3 (.tmp 6) (.const (.int .i64 1)) 3, none)) rfl rfl (fun w' hS => val_lss rfl rfl) ?_
  refine Sch.nil ?_
  refine run_if (x := F58.c6) (y := F58.c7) (o := .tmp 7) (by kernel_rfl) rfl (fun h7 => ?_) (fun h7 => ?_)
  · skip
    omega
  · skip
    refine run_skip (by kernel_rfl) ?_
    refine run_seq (x := F58.c9) (y := F58.c10) (by kernel_rfl) ?_
    refine run_plain (id := 3) (ops := F58.o3) [(0, true), (1, true), (2, false), (3, true)] (by kernel_rfl) (by kernel_rfl) ?_
    refine yS (by kernel_rfl : opAt F58.o3 0 = some (some 9, .move (.tmp 0), none)) rfl rfl (fun w' hS => val_move rfl) ?_
    refine iS (e := 3) (by kernel_rfl : opAt F58.o3 1 = some (some 10, .indexAddr 22 (.tmp 9) (.const (.int .i64 0)), none)) rfl rfl hl rfl (by kernel_rfl) rfl (by omega) (by omega) ?_
    intro b10 o10 h10
    try simp only [Int.toNat_natCast] at h10
    try simp only [show (0 : Int).toNat = 0 from rfl] at h10
    refine lN (by kernel_rfl : opAt F58.o3 2 = some (some 11, .load 3 (.tmp 10), none)) rfl rfl trivial h10 (by kernel_rfl) rfl rfl ?_
    intro v11 g11
    first | (obtain rfl := rv_nat.1 g11) | (obtain rfl := rv_int.1 g11)
    refine yS (by kernel_rfl : opAt F58.o3 3 = some (some 3, .assign (.tmp 11), none)) rfl rfl (fun w' hS => val_assign rfl) ?_
    refine Sch.nil ?_
    refine run_seq (x := F58.c11) (y := F58.c25) (by kernel_rfl) ?_
    refine run_seq (x := F58.c12) (y := F58.c13) (by kernel_rfl) ?_
    refine run_plain (id := 4) (ops := F58.o4) [(0, true)] (by kernel_rfl) (by kernel_rfl) ?_
    refine yS (by kernel_rfl : opAt F58.o4 0 = some (some 4, .assign (.const (.int .i64 1)), none)) rfl rfl (fun w' hS => val_assign rfl) ?_
    refine Sch.nil ?_
    refine run_block (x := F58.c14) (id := 0) (by kernel_rfl) ?_
    
    refine run_loop (ι := Nat × Int) (I := fun x w => 1 ≤ x.1 ∧ x.1 ≤ l.length ∧ (∀ q, q < x.1 → ∀ hq : q < l.length, l[q] ≤ x.2) ∧ (∃ q, ∃ hq : q < l.length, l[q] = x.2) ∧ w = w₀ ∧ RV w M l vl) (e := fun x => [(0, vl), (3, .int .i64 x.2), (4, .int .i64 x.1)]) (m := fun x => l.length - x.1) (x₀ := (1, l[0]'(by omega))) (body := F58.c15) (by kernel_rfl) (sub_cons 0 rfl rfl (sub_cons 3 rfl rfl (sub_cons 4 rfl rfl (sub_nil _)))) ?_ ?_
    · exact ⟨Nat.le_refl _, (by simp only; omega), (fun q hq hl => by simp only at hq ⊢; obtain rfl : q = 0 := (by omega); exact Int.le_refl _), ⟨0, by omega, rfl⟩, rfl, hl⟩
    intro ⟨i, z⟩ w1 hI next
    obtain ⟨hi1, hi, hz1, hz2, rfl, hl⟩ := hI
    try simp only at hi1 hi hz1 hz2 hl
    have next1 := next
    clear next
    show Run _ _ _ _ [(0, vl), (3, .int .i64 z), (4, .int .i64 i)] _ _
    have hle := hl.le
    refine run_seq (x := F58.c16) (y := F58.c21) (by kernel_rfl) ?_
    refine run_seq (x := F58.c17) (y := F58.c18) (by kernel_rfl) ?_
    refine run_plain (id := 5) (ops := F58.o5) [(0, true), (1, true), (2, true), (3, true)] (by kernel_rfl) (by kernel_rfl) ?_
    refine yS (by kernel_rfl : opAt F58.o5 0 = some (some 12, .move (.tmp 4), none)) rfl rfl (fun w' hS => val_move rfl) ?_
    refine yS (by kernel_rfl : opAt F58.o5 1 = some (some 13, .move (.tmp 0), none)) rfl rfl (fun w' hS => val_move rfl) ?_
    refine yS (by kernel_rfl : opAt F58.o5 2 = some (some 14, .call { callee := .builtin .len, args := #[(.tmp 13)], argTypes := #[22] }, none)) rfl rfl (fun w' hS => hl.lenV rfl Try.underlying22 w' ) ?_
    refine yS (by kernel_rfl : opAt F58.o5 3 = some (some 15, .binOp .lss 3 (.tmp 12) (.tmp 14) 3, none)) rfl rfl (fun w' hS => val_lss rfl rfl) ?_
    refine Sch.nil ?_
    refine run_if (x := F58.c19) (y := F58.c20) (o := .tmp 15) (by kernel_rfl) rfl (fun h15 => ?_) (fun h15 => ?_)
    · skip
      have hil : i < l.length := by omega
      refine run_skip (by kernel_rfl) ?_
      refine run_seq (x := F58.c22) (y := F58.c24) (by kernel_rfl) ?_
      refine run_block (x := F58.c23) (id := 1) (by kernel_rfl) ?_
      refine run_plain (id := 7) (ops := F58.o7) [(0, true), (1, true), (2, true), (3, true), (4, false), (5, true), (6, true)] (by kernel_rfl) (by kernel_rfl) ?_
      refine yS (by kernel_rfl : opAt F58.o7 0 = some (some 18, .move (.tmp 3), none)) rfl rfl (fun w' hS => val_move rfl) ?_
      refine yS (by kernel_rfl : opAt F58.o7 1 = some (some 19, .move (.tmp 0), none)) rfl rfl (fun w' hS => val_move rfl) ?_
      refine yS (by kernel_rfl : opAt F58.o7 2 = some (some 20, .move (.tmp 4), none)) rfl rfl (fun w' hS => val_move rfl) ?_
      refine iS (e := 3) (by kernel_rfl : opAt F58.o7 3 = some (some 21, .indexAddr 22 (.tmp 19) (.tmp 20), none)) rfl rfl hl rfl (by kernel_rfl) rfl (by omega) (by omega) ?_
      intro b21 o21 h21
      try simp only [Int.toNat_natCast] at h21
      refine lN (by kernel_rfl : opAt F58.o7 4 = some (some 22, .load 3 (.tmp 21), none)) rfl rfl trivial h21 (by kernel_rfl) rfl rfl ?_
      intro v22 g22
      first | (obtain rfl := rv_nat.1 g22) | (obtain rfl := rv_int.1 g22)
      refine yS (by kernel_rfl : opAt F58.o7 5 = some (some 23, .call { callee := .builtin .max, args := #[(.tmp 18), (.tmp 22)], argTypes := #[3, 3] }, none)) rfl rfl (fun w' hS => val_max rfl rfl Try.underlying3) ?_
      refine yS (by kernel_rfl : opAt F58.o7 6 = some (some 3, .assign (.tmp 23), none)) rfl rfl (fun w' hS => val_assign rfl) ?_
      refine Sch.nil ?_
      refine run_inBlock ?_
      refine run_plain (id := 6) (ops := F58.o6) [(0, true), (1, true), (2, true)] (by kernel_rfl) (by kernel_rfl) ?_
      refine yS (by kernel_rfl : opAt F58.o6 0 = some (some 16, .move (.tmp 4), none)) rfl rfl (fun w' hS => val_move rfl) ?_
      refine yS (by kernel_rfl : opAt F58.o6 1 = some (some 17, .binOp .add 3 (.tmp 16) (.const (.int .i64 1)) 3, none)) rfl rfl (fun w' hS => val_addi rfl rfl (by omega) (by omega)) ?_
      refine yS (by kernel_rfl : opAt F58.o6 2 = some (some 4, .assign (.tmp 17), none)) rfl rfl (fun w' hS => val_assign rfl) ?_
      refine Sch.nil ?_
      refine kp (sub_cons 0 rfl rfl (sub_cons 3 rfl rfl (sub_cons 4 rfl (eq_int (by simp)) (sub_nil _)))) (next1 (i + 1, max z l[i]) _ ⟨(by first | omega | (simp only; omega)), (by first | omega | (simp only; omega)), (fun q hq hl => by
          simp only at hq ⊢
          by_cases e : q = i
          · subst e; exact Int.le_max_right _ _
          · exact Int.le_trans (hz1 q (by omega) hl) (Int.le_max_left _ _)), (by
          obtain ⟨q, hq, e⟩ := hz2
          rcases Int.le_total z l[i] with h1 | h1
          · exact ⟨i, hil, (Int.max_eq_right h1).symm⟩
          · exact ⟨q, hq, e.trans (Int.max_eq_left h1).symm⟩), rfl, hl⟩ (by first | omega | (simp only; omega)))
    · skip
      have hil : i = l.length := by omega
      subst hil
      refine run_exit (id := 0) (by kernel_rfl) rfl ?_
      refine run_seq (x := F58.c26) (y := F58.c27) (by kernel_rfl) ?_
      refine run_plain (id := 8) (ops := F58.o8) [(0, true), (1, true)] (by kernel_rfl) (by kernel_rfl) ?_
      refine yS (by kernel_rfl : opAt F58.o8 0 = some (some 24, .move (.tmp 3), none)) rfl rfl (fun w' hS => val_move rfl) ?_
      refine yS (by kernel_rfl : opAt F58.o8 1 = some (some 2, .assign (.tmp 24), none)) rfl rfl (fun w' hS => val_assign rfl) ?_
      refine Sch.nil ?_
      refine run_ret1 (by kernel_rfl) Try.func58 Try.results58 rfl ?_
      exact ⟨z, rfl, rfl, fun q hq => hz1 q hq hq, hz2⟩
namespace F56
noncomputable def c0 : Code := bodyOf Try.f56
noncomputable def c1 : Code := cl c0
noncomputable def o0 : Array Oper := rops c1
noncomputable def c2 : Code := cr c0
noncomputable def c3 : Code := cl c2
noncomputable def o1 : Array Oper := rops c3
noncomputable def c4 : Code := cr c2
noncomputable def c5 : Code := cl c4
noncomputable def o2 : Array Oper := rops c5
noncomputable def c6 : Code := cr c4
noncomputable def c7 : Code := cl c6
noncomputable def c8 : Code := cl c7
noncomputable def o3 : Array Oper := rops c8
noncomputable def c9 : Code := cr c7
noncomputable def c10 : Code := cl c9
noncomputable def c11 : Code := cl c10
noncomputable def c12 : Code := cl c11
noncomputable def o4 : Array Oper := rops c12
noncomputable def c13 : Code := cr c11
noncomputable def c14 : Code := cl c13
noncomputable def c15 : Code := cl c14
noncomputable def c16 : Code := cr c14
noncomputable def c17 : Code := cr c13
noncomputable def c18 : Code := cl c17
noncomputable def c19 : Code := cl c18
noncomputable def c20 : Code := cl c19
noncomputable def o5 : Array Oper := rops c20
noncomputable def c21 : Code := cr c19
noncomputable def c22 : Code := cl c21
noncomputable def o6 : Array Oper := rops c22
noncomputable def c23 : Code := cr c21
noncomputable def c24 : Code := cl c23
noncomputable def o7 : Array Oper := rops c24
noncomputable def c25 : Code := cr c23
noncomputable def c26 : Code := cl c25
noncomputable def c27 : Code := cl c26
noncomputable def c28 : Code := cl c27
noncomputable def o8 : Array Oper := rops c28
noncomputable def c29 : Code := cr c27
noncomputable def c30 : Code := cl c29
noncomputable def c31 : Code := cl c30
noncomputable def c32 : Code := cr c30
noncomputable def c33 : Code := cr c29
noncomputable def c34 : Code := cl c33
noncomputable def c35 : Code := cl c34
noncomputable def c36 : Code := cl c35
noncomputable def o9 : Array Oper := rops c36
noncomputable def c37 : Code := cr c35
noncomputable def c38 : Code := cl c37
noncomputable def o10 : Array Oper := rops c38
noncomputable def c39 : Code := cr c37
noncomputable def c40 : Code := cl c39
noncomputable def o11 : Array Oper := rops c40
noncomputable def c41 : Code := cr c39
noncomputable def c42 : Code := cr c33
noncomputable def o12 : Array Oper := rops c42
noncomputable def c43 : Code := cr c17
noncomputable def o13 : Array Oper := rops c43
noncomputable def c44 : Code := cr c6
noncomputable def c45 : Code := cl c44
noncomputable def o14 : Array Oper := rops c45
noncomputable def c46 : Code := cr c44
end F56
/-- 'padded'. -/
theorem padded_ok {w₀ : World} {C : Nat → Nat} {n m fw : Nat} {cap : Array Value} {wt : Nat → Nat → Int} (hF : Lim w₀ C) (hn : n ≤ 100000) (hm : m ≤ 100000) (hcall : ∀ args w, (callFunc fw args).run Try.prog w = .ok (.enter fw args) w) (hwt : ∀ w1, Stp [] w₀ C w1 C → ∀ i j : Nat, i < n → j < m → Calls Try.prog fw ([Value.int .i64 i, Value.int .i64 j] ++ cap.toList).toArray w1 (Ret fun v w2 => v = .int .i64 (wt i j) ∧ Stp [] w1 C w2 C)) :
    Calls Try.prog 56 #[.int .i64 n, .int .i64 m, .func (.func fw) #[] cap] w₀ (Ret fun v w' => Stp [] w₀ C w' C ∧ RV w' (Mc C) (wmL n m wt) v) := by
  have hF0 := hF
  have hT := Stp.refl [2, 3, 4, 5, 6, 7, 8, 9] w₀ (col1 C)
  replace hF := hF.col1
  refine calls_start (c := F56.c0) (N := 52) [.int .i64 n, .int .i64 m, .func (.func fw) #[] cap] Try.func56 (by kernel_rfl) (by kernel_rfl) (by kernel_rfl) ?_
  show Run _ _ _ _ [(0, .int .i64 n), (1, .int .i64 m), (2, .func (.func fw) #[] cap)] _ _
  refine run_seq (x := F56.c1) (y := F56.c2) (by kernel_rfl) ?_
  refine run_plain (id := 0) (ops := F56.o0) [(0, true)] (by kernel_rfl) (by kernel_rfl) ?_
  refine yS (by kernel_rfl : opAt F56.o0 0 = some (some 6, .assign (.const (.slice none 0 0)), none)) rfl rfl (fun w' hS => val_assign rfl) ?_
  refine Sch.nil ?_
  refine run_seq (x := F56.c3) (y := F56.c4) (by kernel_rfl) ?_
  refine run_plain (id := 1) (ops := F56.o1) [(0, true), (1, true), (2, true), (3, true)] (by kernel_rfl) (by kernel_rfl) ?_
  refine yS (by kernel_rfl : opAt F56.o1 0 = some (some 11, .move (.tmp 0), none)) rfl rfl (fun w' hS => val_move rfl) ?_
  refine yS (by kernel_rfl : opAt F56.o1 1 = some (some 12, .move (.tmp 1), none)) rfl rfl (fun w' hS => val_move rfl) ?_
  refine yS (by kernel_rfl : opAt F56.o1 2 = some (some 13, .call { callee := .builtin .max, args := #[(.tmp 11), (.tmp 12)], argTypes := #[3, 3] }, none)) rfl rfl (fun w' hS => val_is (val_max rfl rfl Try.underlying3) (congrArg (Value.int .i64) (show max (n : Int) (m : Int) = ((max n m : Nat) : Int) from by omega))) ?_
  refine yS (by kernel_rfl : opAt F56.o1 3 = some (some 7, .assign (.tmp 13), none)) rfl rfl (fun w' hS => val_assign rfl) ?_
  refine Sch.nil ?_
  refine run_seq (x := F56.c5) (y := F56.c6) (by kernel_rfl) ?_
  refine run_plain (id := 2) (ops := F56.o2) [(0, true), (1, false), (2, true)] (by kernel_rfl) (by kernel_rfl) ?_
  refine yS (by kernel_rfl : opAt F56.o2 0 = some (some 14, .move (.tmp 7), none)) rfl rfl (fun w' hS => val_move rfl) ?_
  refine aS (by kernel_rfl : opAt F56.o2 1 = some (some 15, .makeSlice 70 (.tmp 14) (.tmp 14), none)) rfl rfl (a_make (e := 22) (bytes := 24) (x0 := (⟨.slice none 0 0⟩ : Sv)) (zs := [.slice none 0 0]) hF (j := 3) (by decide) (by kernel_rfl) (by kernel_rfl) rfl rfl (by omega) (by omega) (by omega) (fun h M => ⟨rfl, rfl⟩)) ?_
  rintro v15 w1 ⟨Cw1, hs, ho, hF⟩
  refine ⟨trivial, ?_⟩
  replace hT := hT.trans hs (by simp)
  rw [svsF_rep] at ho
  refine yS (by kernel_rfl : opAt F56.o2 2 = some (some 8, .assign (.tmp 15), none)) rfl rfl (fun w' hS => val_assign rfl) ?_
  refine Sch.nil ?_
  refine run_seq (x := F56.c7) (y := F56.c44) (by kernel_rfl) ?_
  refine run_seq (x := F56.c8) (y := F56.c9) (by kernel_rfl) ?_
  refine run_plain (id := 3) (ops := F56.o3) [(0, true), (1, true), (2, true)] (by kernel_rfl) (by kernel_rfl) ?_
  refine yS (by kernel_rfl : opAt F56.o3 0 = some (some 16, .move (.tmp 8), none)) rfl rfl (fun w' hS => val_move rfl) ?_
  refine yS (by kernel_rfl : opAt F56.o3 1 = some (some 17, .call { callee := .builtin .len, args := #[(.tmp 16)], argTypes := #[70] }, none)) rfl rfl (fun w' hS => ho.lenV rfl Try.underlying70 w' ) ?_
  refine yS (by kernel_rfl : opAt F56.o3 2 = some (some 18, .move (.const (.int .i64 0)), none)) rfl rfl (fun w' hS => val_move rfl) ?_
  refine Sch.nil ?_
  refine run_block (x := F56.c10) (id := 0) (by kernel_rfl) ?_
  
  refine run_loop (ι := Nat × (Nat → Value) × (Nat → Nat)) (I := fun x w => x.1 ≤ (max n m) ∧ Lim w x.2.2 ∧ Stp [2, 3, 4, 5, 6, 7, 8, 9] w₀ (col1 C) w x.2.2 ∧ OwnL w x.2.2 3 22 v15 (svsF x.2.1 (max n m)) ∧ (∀ q, q < x.1 → RV w (Mc x.2.2) (rowW n m wt q) (x.2.1 q))) (e := fun x => [(0, .int .i64 n), (1, .int .i64 m), (2, .func (.func fw) #[] cap), (7, .int .i64 ((max n m) : Nat)), (8, v15), (17, .int .i64 (svsF (fun _ => Value.slice none 0 0) (max n m)).length), (18, .int .i64 x.1)]) (m := fun x => (max n m) - x.1) (x₀ := (0, fun _ => .slice none 0 0, Cw1)) (body := F56.c11) (by kernel_rfl) (sub_cons 0 rfl rfl (sub_cons 1 rfl rfl (sub_cons 2 rfl rfl (sub_cons 7 rfl rfl (sub_cons 8 rfl rfl (sub_cons 17 rfl rfl (sub_cons 18 rfl rfl (sub_nil _)))))))) ?_ ?_
  · exact ⟨Nat.zero_le _, hF, hT, ho, fun q hq => by simp only at hq; omega⟩
  intro ⟨i, vf, C1⟩ w2 hI next
  obtain ⟨hi, hF, hT, ho, hrows⟩ := hI
  try simp only at hi hF hT ho hrows
  have next1 := next
  clear next
  show Run _ _ _ _ [(0, .int .i64 n), (1, .int .i64 m), (2, .func (.func fw) #[] cap), (7, .int .i64 ((max n m) : Nat)), (8, v15), (17, .int .i64 (svsF (fun _ => Value.slice none 0 0) (max n m)).length), (18, .int .i64 i)] _ _
  have hsl := svsF_len vf (max n m)
  have hsl0 := svsF_len (fun _ => Value.slice none 0 0) (max n m)
  refine run_seq (x := F56.c12) (y := F56.c13) (by kernel_rfl) ?_
  refine run_plain (id := 4) (ops := F56.o4) [(0, true)] (by kernel_rfl) (by kernel_rfl) ?_
  refine yS (by kernel_rfl : opAt F56.o4 0 = some (some 19, .binOp .lss 3 (.tmp 18) (.tmp 17) 3, none)) rfl rfl (fun w' hS => val_lss rfl rfl) ?_
  refine Sch.nil ?_
  refine run_seq (x := F56.c14) (y := F56.c17) (by kernel_rfl) ?_
  refine run_if (x := F56.c15) (y := F56.c16) (o := .tmp 19) (by kernel_rfl) rfl (fun h19 => ?_) (fun h19 => ?_)
  · skip
    have hil : i < (max n m) := by omega
    refine run_skip (by kernel_rfl) ?_
    refine run_seq (x := F56.c18) (y := F56.c43) (by kernel_rfl) ?_
    refine run_block (x := F56.c19) (id := 1) (by kernel_rfl) ?_
    refine run_seq (x := F56.c20) (y := F56.c21) (by kernel_rfl) ?_
    refine run_plain (id := 5) (ops := F56.o5) [(0, true), (1, true)] (by kernel_rfl) (by kernel_rfl) ?_
    refine yS (by kernel_rfl : opAt F56.o5 0 = some (some 20, .move (.tmp 18), none)) rfl rfl (fun w' hS => val_move rfl) ?_
    refine yS (by kernel_rfl : opAt F56.o5 1 = some (some 9, .assign (.tmp 20), none)) rfl rfl (fun w' hS => val_assign rfl) ?_
    refine Sch.nil ?_
    refine run_seq (x := F56.c22) (y := F56.c23) (by kernel_rfl) ?_
    refine run_plain (id := 6) (ops := F56.o6) [(0, true), (1, true), (2, true), (3, false), (4, true), (5, false)] (by kernel_rfl) (by kernel_rfl) ?_
    refine yS (by kernel_rfl : opAt F56.o6 0 = some (some 21, .move (.tmp 8), none)) rfl rfl (fun w' hS => val_move rfl) ?_
    refine yS (by kernel_rfl : opAt F56.o6 1 = some (some 22, .move (.tmp 9), none)) rfl rfl (fun w' hS => val_move rfl) ?_
    refine yS (by kernel_rfl : opAt F56.o6 2 = some (some 23, .move (.tmp 7), none)) rfl rfl (fun w' hS => val_move rfl) ?_
    refine aS (by kernel_rfl : opAt F56.o6 3 = some (some 24, .makeSlice 22 (.tmp 23) (.tmp 23), none)) rfl rfl (a_make (e := 3) (bytes := 8) (x0 := (0 : Int)) (zs := [.int .i64 0]) hF (j := 4) (by decide) (by kernel_rfl) (by kernel_rfl) rfl rfl (by omega) (by omega) (by omega) (fun h M => zero_int)) ?_
    rintro v24 w3 ⟨Cw3, hs, hin, hF⟩
    refine ⟨trivial, ?_⟩
    replace hT := hT.trans hs (by simp)
    replace ho := ho.st hs (by first | decide | (simp <;> omega)) (by first | decide | (simp <;> omega))
    replace hrows := fun k hk => (hrows k hk).st hs (by first | decide | (simp <;> omega))
    refine oI (e' := 22) (by kernel_rfl : opAt F56.o6 4 = some (some 25, .indexAddr 70 (.tmp 21) (.tmp 22), none)) rfl rfl ho rfl (by kernel_rfl) rfl (by omega) (by omega) ?_
    intro g25 hg25
    try simp only [Int.toNat_natCast]
    refine aN (by kernel_rfl : opAt F56.o6 5 = some (none, .store 22 (.tmp 25) (.tmp 24), none)) rfl (a_storeO ho hg25 (by omega) rfl rfl (by kernel_rfl) (rv_sv.2 ⟨rfl, hin.one.2⟩)) ?_
    rintro _ w4 ⟨rfl, hs, ho⟩
    refine ⟨trivial, ?_⟩
    replace hF := hF.st hs
    replace hT := hT.trans hs (by simp)
    replace hrows := fun k hk => (hrows k hk).st hs (by first | decide | (simp <;> omega))
    replace hin := hin.st hs (by first | decide | (simp <;> omega)) (by first | decide | (simp <;> omega))
    refine Sch.nil ?_
    rw [svsF_set] at ho
    have hsl2 := svsF_len (updV vf i v24) (max n m)
    have hvi : updV vf i v24 i = v24 := by simp [updV]
    replace hrows : ∀ q, q < i → RV _ _ (rowW n m wt q) (updV vf i v24 q) := fun q hq => by rw [show updV vf i v24 q = vf q from by simp [updV]; omega]; exact hrows q hq
    obtain ⟨vg, hvg⟩ : ∃ f, f = updV vf i v24 := ⟨_, rfl⟩
    rw [← hvg] at ho hrows hsl2 hvi
    refine run_seq (x := F56.c24) (y := F56.c25) (by kernel_rfl) ?_
    refine run_plain (id := 7) (ops := F56.o7) [(0, true), (1, true)] (by kernel_rfl) (by kernel_rfl) ?_
    refine yS (by kernel_rfl : opAt F56.o7 0 = some (some 26, .move (.tmp 7), none)) rfl rfl (fun w' hS => val_move rfl) ?_
    refine yS (by kernel_rfl : opAt F56.o7 1 = some (some 27, .move (.const (.int .i64 0)), none)) rfl rfl (fun w' hS => val_move rfl) ?_
    refine Sch.nil ?_
    refine run_block (x := F56.c26) (id := 2) (by kernel_rfl) ?_
    
    refine run_loop (ι := Nat × (List Int) × (Nat → Nat)) (I := fun x w => x.1 ≤ (max n m) ∧ x.2.1.length = (max n m) ∧ (∀ q (hq : q < x.2.1.length), x.2.1[q] = if q < x.1 then padW n m wt i q else 0) ∧ Lim w x.2.2 ∧ Stp [2, 3, 4, 5, 6, 7, 8, 9] w₀ (col1 C) w x.2.2 ∧ OwnL w x.2.2 3 22 v15 (svsF vg (max n m)) ∧ (∀ q, q < i → RV w (Mc x.2.2) (rowW n m wt q) (vg q)) ∧ OwnL w x.2.2 4 3 v24 x.2.1) (e := fun x => [(0, .int .i64 n), (1, .int .i64 m), (2, .func (.func fw) #[] cap), (7, .int .i64 ((max n m) : Nat)), (8, v15), (9, .int .i64 i), (17, .int .i64 (svsF (fun _ => Value.slice none 0 0) (max n m)).length), (18, .int .i64 i), (26, .int .i64 ((max n m) : Nat)), (27, .int .i64 x.1)]) (m := fun x => (max n m) - x.1) (x₀ := (0, List.replicate (max n m) 0, Cw3)) (body := F56.c27) (by kernel_rfl) (sub_cons 0 rfl rfl (sub_cons 1 rfl rfl (sub_cons 2 rfl rfl (sub_cons 7 rfl rfl (sub_cons 8 rfl rfl (sub_cons 9 rfl rfl (sub_cons 17 rfl rfl (sub_cons 18 rfl rfl (sub_cons 26 rfl rfl (sub_cons 27 rfl rfl (sub_nil _))))))))))) ?_ ?_
    · exact ⟨Nat.zero_le _, (by simp only; exact List.length_replicate), (fun q hq => by simp only at hq ⊢; rw [List.getElem_replicate, if_neg (by omega)]), hF, hT, ho, hrows, by simpa using hin⟩
    intro ⟨j, ys, C2⟩ w5 hI next
    obtain ⟨hj, hyl, hyv, hF, hT, ho, hrows, hin⟩ := hI
    try simp only at hj hyl hyv hF hT ho hrows hin
    have next2 := next
    clear next
    show Run _ _ _ _ [(0, .int .i64 n), (1, .int .i64 m), (2, .func (.func fw) #[] cap), (7, .int .i64 ((max n m) : Nat)), (8, v15), (9, .int .i64 i), (17, .int .i64 (svsF (fun _ => Value.slice none 0 0) (max n m)).length), (18, .int .i64 i), (26, .int .i64 ((max n m) : Nat)), (27, .int .i64 j)] _ _
    refine run_seq (x := F56.c28) (y := F56.c29) (by kernel_rfl) ?_
    refine run_plain (id := 8) (ops := F56.o8) [(0, true)] (by kernel_rfl) (by kernel_rfl) ?_
    refine yS (by kernel_rfl : opAt F56.o8 0 = some (some 28, .binOp .lss 3 (.tmp 27) (.tmp 26) 3, none)) rfl rfl (fun w' hS => val_lss rfl rfl) ?_
    refine Sch.nil ?_
    refine run_seq (x := F56.c30) (y := F56.c33) (by kernel_rfl) ?_
    refine run_if (x := F56.c31) (y := F56.c32) (o := .tmp 28) (by kernel_rfl) rfl (fun h28 => ?_) (fun h28 => ?_)
    · skip
      have hjl : j < (max n m) := by omega
      refine run_skip (by kernel_rfl) ?_
      refine run_seq (x := F56.c34) (y := F56.c42) (by kernel_rfl) ?_
      refine run_block (x := F56.c35) (id := 3) (by kernel_rfl) ?_
      refine run_seq (x := F56.c36) (y := F56.c37) (by kernel_rfl) ?_
      refine run_plain (id := 9) (ops := F56.o9) [(0, true), (1, true)] (by kernel_rfl) (by kernel_rfl) ?_
      refine yS (by kernel_rfl : opAt F56.o9 0 = some (some 29, .move (.tmp 27), none)) rfl rfl (fun w' hS => val_move rfl) ?_
      refine yS (by kernel_rfl : opAt F56.o9 1 = some (some 10, .assign (.tmp 29), none)) rfl rfl (fun w' hS => val_assign rfl) ?_
      refine Sch.nil ?_
      refine run_seq (x := F56.c38) (y := F56.c39) (by kernel_rfl) ?_
      refine run_cut 37 (decide (i < n ∧ j < m)) (C2) ?_ ?_
      · intro hcut
        by_cases hA : (i : Int) < n
        · skip
          refine run_plain (id := 10) (ops := F56.o10) [(0, true), (1, true), (2, true), (3, true), (4, true), (5, true), (6, true), (7, true)] (by kernel_rfl) (by kernel_rfl) ?_
          refine yS (by kernel_rfl : opAt F56.o10 0 = some (some 30, .move (.tmp 9), none)) rfl rfl (fun w' hS => val_move rfl) ?_
          refine yS (by kernel_rfl : opAt F56.o10 1 = some (some 31, .move (.tmp 0), none)) rfl rfl (fun w' hS => val_move rfl) ?_
          refine yS (by kernel_rfl : opAt F56.o10 2 = some (some 32, .binOp .lss 3 (.tmp 30) (.tmp 31) 3, none)) rfl rfl (fun w' hS => val_T (val_lss rfl rfl) hA) ?_
          refine yS (by kernel_rfl : opAt F56.o10 3 = some (some 33, .move (.tmp 32), none)) rfl rfl (fun w' hS => val_move rfl) ?_
          refine yS (by kernel_rfl : opAt F56.o10 4 = some (some 34, .move (.tmp 10), (some (3, true)))) rfl rfl (fun w' hS => val_move rfl) ?_
          refine yS (by kernel_rfl : opAt F56.o10 5 = some (some 35, .move (.tmp 1), (some (3, true)))) rfl rfl (fun w' hS => val_move rfl) ?_
          refine yS (by kernel_rfl : opAt F56.o10 6 = some (some 36, .binOp .lss 3 (.tmp 34) (.tmp 35) 3, (some (3, true)))) rfl rfl (fun w' hS => val_lss rfl rfl) ?_
          refine yS (by kernel_rfl : opAt F56.o10 7 = some (some 37, .pick (.tmp 33) (.tmp 36) (.const (.bool false)), none)) rfl rfl (fun w' hS => val_pick_t rfl rfl) ?_
          exact Sch.nil (hcut _ _ _ (Stp.refl _ _ _) rfl (by congr 1; apply decide_eq_decide.2; omega) (sub_skip rfl (sub_skip rfl (sub_skip rfl (sub_skip rfl (sub_skip rfl (sub_skip rfl (sub_skip rfl (sub_skip rfl (Sub.refl _))))))))))
        · skip
          refine run_plain (id := 10) (ops := F56.o10) [(0, true), (1, true), (2, true), (3, true), (4, true), (5, true), (6, true), (7, true)] (by kernel_rfl) (by kernel_rfl) ?_
          refine yS (by kernel_rfl : opAt F56.o10 0 = some (some 30, .move (.tmp 9), none)) rfl rfl (fun w' hS => val_move rfl) ?_
          refine yS (by kernel_rfl : opAt F56.o10 1 = some (some 31, .move (.tmp 0), none)) rfl rfl (fun w' hS => val_move rfl) ?_
          refine yS (by kernel_rfl : opAt F56.o10 2 = some (some 32, .binOp .lss 3 (.tmp 30) (.tmp 31) 3, none)) rfl rfl (fun w' hS => val_F (val_lss rfl rfl) hA) ?_
          refine yS (by kernel_rfl : opAt F56.o10 3 = some (some 33, .move (.tmp 32), none)) rfl rfl (fun w' hS => val_move rfl) ?_
          refine pS (by kernel_rfl : opAt F56.o10 4 = some (some 34, .move (.tmp 10), (some (3, true)))) rfl rfl ?_
          refine pS (by kernel_rfl : opAt F56.o10 5 = some (some 35, .move (.tmp 1), (some (3, true)))) rfl rfl ?_
          refine pS (by kernel_rfl : opAt F56.o10 6 = some (some 36, .binOp .lss 3 (.tmp 34) (.tmp 35) 3, (some (3, true)))) rfl rfl ?_
          refine yS (by kernel_rfl : opAt F56.o10 7 = some (some 37, .pick (.tmp 33) (.tmp 36) (.const (.bool false)), none)) rfl rfl (fun w' hS => val_pick_f rfl rfl) ?_
          exact Sch.nil (hcut _ _ _ (Stp.refl _ _ _) rfl (by rw [decide_eq_false (by omega)]) (sub_skip rfl (sub_skip rfl (sub_skip rfl (sub_skip rfl (sub_skip rfl (sub_skip rfl (sub_skip rfl (sub_skip rfl (Sub.refl _))))))))))
      intro w6 hs
      replace hF := hF.st hs
      replace hT := hT.trans hs (by simp)
      replace ho := ho.st hs (by first | decide | (simp <;> omega)) (by first | decide | (simp <;> omega))
      replace hrows := fun k hk => (hrows k hk).st hs (by first | decide | (simp <;> omega))
      replace hin := hin.st hs (by first | decide | (simp <;> omega)) (by first | decide | (simp <;> omega))
      refine run_if (x := F56.c40) (y := F56.c41) (o := .tmp 37) (by kernel_rfl) rfl (fun h37 => ?_) (fun h37 => ?_)
      · skip
        have hpw : padW n m wt i j = max (wt i j) 0 := by unfold padW pos; rw [if_pos h37]
        refine run_draw (id := 11) (ops := F56.o11) [4] (C2) [(0, true), (1, true), (2, true), (3, true), (4, true), (5, true), (6, true), (7, true), (8, false), (9, true), (10, true), (11, false)] Try_mixed (by kernel_rfl) (by kernel_rfl) (by kernel_rfl) ?_
        intro w7 hs
        replace hF := hF.st hs
        replace hT := hT.trans hs (by simp)
        replace ho := ho.st hs (by first | decide | (simp <;> omega)) (by first | decide | (simp <;> omega))
        replace hrows := fun k hk => (hrows k hk).st hs (by first | decide | (simp <;> omega))
        replace hin := hin.st hs (by first | decide | (simp <;> omega)) (by first | decide | (simp <;> omega))
        have hR := Stp.refl [4] w7 (C2)
        refine yS (by kernel_rfl : opAt F56.o11 0 = some (some 38, .move (.tmp 8), none)) rfl rfl (fun w' hS => val_move rfl) ?_
        refine yS (by kernel_rfl : opAt F56.o11 1 = some (some 39, .move (.tmp 9), none)) rfl rfl (fun w' hS => val_move rfl) ?_
        refine oI (e' := 22) (by kernel_rfl : opAt F56.o11 2 = some (some 40, .indexAddr 70 (.tmp 38) (.tmp 39), none)) rfl rfl ho rfl (by kernel_rfl) rfl (by omega) (by omega) ?_
        intro g40 hg40
        try simp only [Int.toNat_natCast]
        refine oS (I := [4]) (by kernel_rfl : opAt F56.o11 3 = some (some 41, .load 22 (.tmp 40), none)) rfl rfl ho hg40 (fun w' hS => ho.stay hg40 hS (by first | decide | (simp <;> omega))) (by omega) (by kernel_rfl) rfl rfl ?_
        intro v41 g41
        try simp only [Int.toNat_natCast] at g41
        obtain ⟨e41, _⟩ := rv_sv.1 g41
        rw [svsF_get, hvi] at e41
        subst e41
        refine yS (by kernel_rfl : opAt F56.o11 4 = some (some 42, .move (.tmp 10), none)) rfl rfl (fun w' hS => val_move rfl) ?_
        refine yS (by kernel_rfl : opAt F56.o11 5 = some (some 43, .move (.tmp 2), none)) rfl rfl (fun w' hS => val_move rfl) ?_
        refine yS (by kernel_rfl : opAt F56.o11 6 = some (some 44, .move (.tmp 9), none)) rfl rfl (fun w' hS => val_move rfl) ?_
        refine yS (by kernel_rfl : opAt F56.o11 7 = some (some 45, .move (.tmp 10), none)) rfl rfl (fun w' hS => val_move rfl) ?_
        refine cS (by kernel_rfl : opAt F56.o11 8 = some (some 46, .call { callee := .value (.tmp 43), args := #[(.tmp 44), (.tmp 45)], argTypes := #[3, 3] }, none)) rfl rfl (enters_func hcall rfl rfl) (hwt _ (hT.out1 (by decide)) i j h37.1 h37.2) ?_
        rintro vw8 w8 ⟨rfl, hs0⟩
        have hs := hs0.unfrz (C2)
        refine ⟨(hR.trans hs (by simp)).ext, ?_⟩
        replace hF := hF.st hs
        replace hT := hT.trans hs (by simp)
        replace ho := ho.st hs (by first | decide | (simp <;> omega)) (by first | decide | (simp <;> omega))
        replace hrows := fun k hk => (hrows k hk).st hs (by first | decide | (simp <;> omega))
        replace hin := hin.st hs (by first | decide | (simp <;> omega)) (by first | decide | (simp <;> omega))
        replace hR := hR.trans hs (by simp)
        refine yS (by kernel_rfl : opAt F56.o11 9 = some (some 47, .call { callee := .builtin .max, args := #[(.tmp 46), (.const (.int .i64 0))], argTypes := #[3, 3] }, none)) rfl rfl (fun w' hS => val_is (val_max rfl rfl Try.underlying3) (congrArg (Value.int .i64) hpw.symm)) ?_
        refine oI (e' := 3) (by kernel_rfl : opAt F56.o11 10 = some (some 48, .indexAddr 22 (.tmp 41) (.tmp 42), none)) rfl rfl hin rfl (by kernel_rfl) rfl (by omega) (by omega) ?_
        intro g48 hg48
        try simp only [Int.toNat_natCast]
        refine Sch.free rfl ?_
        refine aN (by kernel_rfl : opAt F56.o11 11 = some (none, .store 3 (.tmp 48) (.tmp 47), none)) rfl (a_storeO hin hg48 (by omega) rfl rfl (by kernel_rfl) (rv_int.2 rfl)) ?_
        rintro _ w9 ⟨rfl, hs, hin⟩
        refine ⟨trivial, ?_⟩
        replace hF := hF.st hs
        replace hT := hT.trans hs (by simp)
        replace ho := ho.st hs (by first | decide | (simp <;> omega)) (by first | decide | (simp <;> omega))
        replace hrows := fun k hk => (hrows k hk).st hs (by first | decide | (simp <;> omega))
        refine Sch.nil ?_
        refine run_inBlock ?_
        refine run_plain (id := 12) (ops := F56.o12) [(0, true), (1, true)] (by kernel_rfl) (by kernel_rfl) ?_
        refine yS (by kernel_rfl : opAt F56.o12 0 = some (some 49, .binOp .add 3 (.tmp 27) (.const (.int .i64 1)) 3, none)) rfl rfl (fun w' hS => val_addi rfl rfl (by omega) (by omega)) ?_
        refine yS (by kernel_rfl : opAt F56.o12 1 = some (some 27, .move (.tmp 49), none)) rfl rfl (fun w' hS => val_move rfl) ?_
        refine Sch.nil ?_
        refine kp (sub_cons 0 rfl rfl (sub_cons 1 rfl rfl (sub_cons 2 rfl rfl (sub_cons 7 rfl rfl (sub_cons 8 rfl rfl (sub_cons 9 rfl rfl (sub_cons 17 rfl rfl (sub_cons 18 rfl rfl (sub_cons 26 rfl rfl (sub_cons 27 rfl (eq_int (by simp)) (sub_nil _))))))))))) (next2 (j + 1, ys.set j (padW n m wt i j), C2) _ ⟨(by first | omega | (simp only; omega)), (by simp only [List.length_set]; exact hyl), (fun q hq => by
            simp only at hq ⊢
            rw [List.getElem_set]
            by_cases e : j = q
            · subst e; rw [if_pos rfl, if_pos (by omega)]
            · rw [if_neg e, hyv q (by simpa using hq)]; simp only [show (q < j + 1) = (q < j) from propext (by omega)]), hF, hT, ho, hrows, hin⟩ (by first | omega | (simp only; omega)))
      · skip
        have hpw : padW n m wt i j = 0 := by unfold padW; rw [if_neg h37]
        refine run_skip (by kernel_rfl) ?_
        refine run_inBlock ?_
        refine run_plain (id := 12) (ops := F56.o12) [(0, true), (1, true)] (by kernel_rfl) (by kernel_rfl) ?_
        refine yS (by kernel_rfl : opAt F56.o12 0 = some (some 49, .binOp .add 3 (.tmp 27) (.const (.int .i64 1)) 3, none)) rfl rfl (fun w' hS => val_addi rfl rfl (by omega) (by omega)) ?_
        refine yS (by kernel_rfl : opAt F56.o12 1 = some (some 27, .move (.tmp 49), none)) rfl rfl (fun w' hS => val_move rfl) ?_
        refine Sch.nil ?_
        refine kp (sub_cons 0 rfl rfl (sub_cons 1 rfl rfl (sub_cons 2 rfl rfl (sub_cons 7 rfl rfl (sub_cons 8 rfl rfl (sub_cons 9 rfl rfl (sub_cons 17 rfl rfl (sub_cons 18 rfl rfl (sub_cons 26 rfl rfl (sub_cons 27 rfl (eq_int (by simp)) (sub_nil _))))))))))) (next2 (j + 1, ys, C2) _ ⟨(by first | omega | (simp only; omega)), (by first | omega | (simp only; omega)), (fun q hq => by
            simp only at hq ⊢
            rw [hyv q hq]
            by_cases e : j = q
            · subst e; rw [if_neg (by omega), if_pos (by omega), hpw]
            · simp only [show (q < j + 1) = (q < j) from propext (by omega)]), hF, hT, ho, hrows, hin⟩ (by first | omega | (simp only; omega)))
    · skip
      have hjl : j = (max n m) := by omega
      subst hjl
      obtain rfl : ys = rowW n m wt i := List.ext_getElem (by rw [hyl, rowW_len]) (fun q h1 h2 => by rw [hyv q h1, if_pos (by omega), rowW_get])
      have hrl := rowW_len (n := n) (m := m) (wt := wt) i
      replace hF := hF.frz 4
      replace hT := hT.frz (n := 4) (fun b => Nat.lt_of_lt_of_le (col1_lt2 C b) (by decide))
      replace ho := ho.frzK (n := 4) (by decide)
      replace hrows := fun k hk => (hrows k hk).frz 4
      have hrow_ := hin.frz (n := 4) (by decide) (by omega)
      clear hin
      have hrow := hrow_
      clear hrow_
      refine run_exit (id := 2) (by kernel_rfl) rfl ?_
      refine run_inBlock ?_
      refine run_plain (id := 13) (ops := F56.o13) [(0, true), (1, true)] (by kernel_rfl) (by kernel_rfl) ?_
      refine yS (by kernel_rfl : opAt F56.o13 0 = some (some 50, .binOp .add 3 (.tmp 18) (.const (.int .i64 1)) 3, none)) rfl rfl (fun w' hS => val_addi rfl rfl (by omega) (by omega)) ?_
      refine yS (by kernel_rfl : opAt F56.o13 1 = some (some 18, .move (.tmp 50), none)) rfl rfl (fun w' hS => val_move rfl) ?_
      refine Sch.nil ?_
      refine kp (sub_cons 0 rfl rfl (sub_cons 1 rfl rfl (sub_cons 2 rfl rfl (sub_cons 7 rfl rfl (sub_cons 8 rfl rfl (sub_cons 17 rfl rfl (sub_cons 18 rfl (eq_int (by simp)) (sub_nil _)))))))) (next1 (i + 1, vg, K.frz 4 C2) _ ⟨(by first | omega | (simp only; omega)), hF, hT, ho, (fun q hq => by
          simp only at hq ⊢
          by_cases e : q = i
          · subst e; rw [hvi]; exact hrow
          · exact hrows q (by omega))⟩ (by first | omega | (simp only; omega)))
  · skip
    have hil : i = (max n m) := by omega
    subst hil
    refine run_exit (id := 0) (by kernel_rfl) rfl ?_
    refine run_seq (x := F56.c45) (y := F56.c46) (by kernel_rfl) ?_
    refine run_plain (id := 14) (ops := F56.o14) [(0, true), (1, true)] (by kernel_rfl) (by kernel_rfl) ?_
    refine yS (by kernel_rfl : opAt F56.o14 0 = some (some 51, .move (.tmp 8), none)) rfl rfl (fun w' hS => val_move rfl) ?_
    refine yS (by kernel_rfl : opAt F56.o14 1 = some (some 6, .assign (.tmp 51), none)) rfl rfl (fun w' hS => val_assign rfl) ?_
    refine Sch.nil ?_
    refine run_ret1 (by kernel_rfl) Try.func56 Try.results56 rfl ?_
    exact ⟨hT.out1 (by decide), rv_lists (vf := vf) (by rw [wmL_len]; exact ho.out hT hF0 (Mc_col1 C) (fun b _ => col1_lt C (by decide) b) (by rw [svsF_len]; omega)) (fun q hq => by rw [wmL_len] at hq; rw [wmL_getD hq]; exact (hrows q hq).out hT hF0 (Mc_col1 C))⟩
end Go.Proofs.Ytgooehopkmbkfaa
