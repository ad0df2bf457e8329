/- Steps through functions of the program. -/
import Derived.Test.YtejbklahkkjmhaaJR3
import Derived.Test.YtejbklahkkjmhaaL2
set_option linter.unusedVariables false
set_option linter.unusedSimpArgs false
set_option maxRecDepth 100000
set_option maxHeartbeats 4000000
namespace Go.Proofs.Ytejbklahkkjmhaa
open Go.K Go.K.Rep

namespace F40
noncomputable def c0 : Code := bodyOf Try.f40
noncomputable def c1 : Code := cl c0
noncomputable def o0 : Array Oper := rops c1
noncomputable def c2 : Code := cr c0
noncomputable def c3 : Code := cl c2
noncomputable def c4 : Code := cl c3
noncomputable def o1 : Array Oper := rops c4
noncomputable def c5 : Code := cr c3
noncomputable def c6 : Code := cl c5
noncomputable def c7 : Code := cl c6
noncomputable def o2 : Array Oper := rops c7
noncomputable def c8 : Code := cr c6
noncomputable def c9 : Code := cr c5
noncomputable def c10 : Code := cr c2
noncomputable def c11 : Code := cl c10
noncomputable def c12 : Code := cl c11
noncomputable def o3 : Array Oper := rops c12
noncomputable def c13 : Code := cr c11
noncomputable def c14 : Code := cl c13
noncomputable def c15 : Code := cl c14
noncomputable def c16 : Code := cl c15
noncomputable def c17 : Code := cl c16
noncomputable def o4 : Array Oper := rops c17
noncomputable def c18 : Code := cr c16
noncomputable def c19 : Code := cl c18
noncomputable def c20 : Code := cr c18
noncomputable def c21 : Code := cr c15
noncomputable def c22 : Code := cl c21
noncomputable def c23 : Code := cl c22
noncomputable def c24 : Code := cl c23
noncomputable def c25 : Code := cl c24
noncomputable def o6 : Array Oper := rops c25
noncomputable def c26 : Code := cr c24
noncomputable def c27 : Code := cl c26
noncomputable def o7 : Array Oper := rops c27
noncomputable def c28 : Code := cr c26
noncomputable def c29 : Code := cl c28
noncomputable def c30 : Code := cl c29
noncomputable def o8 : Array Oper := rops c30
noncomputable def c31 : Code := cr c29
noncomputable def c32 : Code := cr c28
noncomputable def c33 : Code := cr c23
noncomputable def c34 : Code := cl c33
noncomputable def o9 : Array Oper := rops c34
noncomputable def c35 : Code := cr c33
noncomputable def c36 : Code := cl c35
noncomputable def o10 : Array Oper := rops c36
noncomputable def c37 : Code := cr c35
noncomputable def c38 : Code := cl c37
noncomputable def c39 : Code := cl c38
noncomputable def o11 : Array Oper := rops c39
noncomputable def c40 : Code := cr c38
noncomputable def c41 : Code := cr c37
noncomputable def c42 : Code := cr c21
noncomputable def o5 : Array Oper := rops c42
noncomputable def c43 : Code := cr c10
noncomputable def c44 : Code := cl c43
noncomputable def o12 : Array Oper := rops c44
noncomputable def c45 : Code := cr c43
end F40
/-- The specification's 'check'. -/
theorem rchk_ok {w₀ : World} {C : Nat → Nat} {a b : List (List Block)} {va vb : Value} (hF : Lim w₀ C) (ha : RV w₀ (Mc C) a va) (hb : RV w₀ (Mc C) b vb) : Calls Try.prog 40 #[va, vb] w₀ (Ret fun v w' => v = .int .i64 (chkL a b) ∧ Stp [] w₀ C w' C) := by
  have hF0 := hF
  have hT := Stp.refl [2, 3, 4, 5, 6, 7, 8, 9] w₀ (col1 C)
  replace hF := hF.col1
  replace ha : RV w₀ (Mc (col1 C)) a va := by rw [Mc_col1]; exact ha
  replace hb : RV w₀ (Mc (col1 C)) b vb := by rw [Mc_col1]; exact hb
  refine calls_start (c := F40.c0) (N := 40) [va, vb] Try.func40 (by kernel_rfl) (by kernel_rfl) (by kernel_rfl) ?_
  show Run _ _ _ _ [(0, va), (1, vb)] _ _
  refine run_seq (x := F40.c1) (y := F40.c2) (by kernel_rfl) ?_
  refine run_plain (id := 0) (ops := F40.o0) [(0, true)] (by kernel_rfl) (by kernel_rfl) ?_
  refine yS (by kernel_rfl : opAt F40.o0 0 = some (some 4, .assign (.const (.int .i64 0)), none)) rfl rfl (fun w' hS => val_assign rfl) ?_
  refine Sch.nil ?_
  refine run_seq (x := F40.c3) (y := F40.c10) (by kernel_rfl) ?_
  refine run_seq (x := F40.c4) (y := F40.c5) (by kernel_rfl) ?_
  refine run_cut 17 (decide (a.length ≠ b.length ∨ 8 < a.length)) (col1 C) ?_ ?_
  · intro hcut
    by_cases hA : a.length ≠ b.length
    · skip
      refine run_plain (id := 1) (ops := F40.o1) [(0, true), (1, true), (2, true), (3, true), (4, true), (5, true), (6, true), (7, true), (8, true), (9, true)] (by kernel_rfl) (by kernel_rfl) ?_
      refine yS (by kernel_rfl : opAt F40.o1 0 = some (some 8, .move (.tmp 0), none)) rfl rfl (fun w' hS => val_move rfl) ?_
      refine yS (by kernel_rfl : opAt F40.o1 1 = some (some 9, .call { callee := .builtin .len, args := #[(.tmp 8)], argTypes := #[28] }, none)) rfl rfl (fun w' hS => ha.lenV rfl Try.underlying28 w' ) ?_
      refine yS (by kernel_rfl : opAt F40.o1 2 = some (some 10, .move (.tmp 1), none)) rfl rfl (fun w' hS => val_move rfl) ?_
      refine yS (by kernel_rfl : opAt F40.o1 3 = some (some 11, .call { callee := .builtin .len, args := #[(.tmp 10)], argTypes := #[28] }, none)) rfl rfl (fun w' hS => hb.lenV rfl Try.underlying28 w' ) ?_
      refine yS (by kernel_rfl : opAt F40.o1 4 = some (some 12, .binOp .neq 3 (.tmp 9) (.tmp 11) 3, none)) rfl rfl (fun w' hS => val_T (val_neq rfl rfl) (by omega)) ?_
      refine yS (by kernel_rfl : opAt F40.o1 5 = some (some 13, .move (.tmp 12), none)) rfl rfl (fun w' hS => val_move rfl) ?_
      refine pS (by kernel_rfl : opAt F40.o1 6 = some (some 14, .move (.tmp 0), (some (5, false)))) rfl rfl ?_
      refine pS (by kernel_rfl : opAt F40.o1 7 = some (some 15, .call { callee := .builtin .len, args := #[(.tmp 14)], argTypes := #[28] }, (some (5, false)))) rfl rfl ?_
      refine pS (by kernel_rfl : opAt F40.o1 8 = some (some 16, .binOp .gtr 3 (.tmp 15) (.const (.int .i64 8)) 3, (some (5, false)))) rfl rfl ?_
      refine yS (by kernel_rfl : opAt F40.o1 9 = some (some 17, .pick (.tmp 13) (.const (.bool true)) (.tmp 16), none)) rfl rfl (fun w' hS => val_pick_t rfl rfl) ?_
      exact Sch.nil (hcut _ _ _ (Stp.refl _ _ _) rfl (eq_bool (decide_eq_true (Or.inl hA)).symm) (sub_skip rfl (sub_skip rfl (sub_skip rfl (sub_skip rfl (sub_skip rfl (sub_skip rfl (sub_skip rfl (sub_skip rfl (sub_skip rfl (sub_skip rfl (Sub.refl _))))))))))))
    · skip
      refine run_plain (id := 1) (ops := F40.o1) [(0, true), (1, true), (2, true), (3, true), (4, true), (5, true), (6, true), (7, true), (8, true), (9, true)] (by kernel_rfl) (by kernel_rfl) ?_
      refine yS (by kernel_rfl : opAt F40.o1 0 = some (some 8, .move (.tmp 0), none)) rfl rfl (fun w' hS => val_move rfl) ?_
      refine yS (by kernel_rfl : opAt F40.o1 1 = some (some 9, .call { callee := .builtin .len, args := #[(.tmp 8)], argTypes := #[28] }, none)) rfl rfl (fun w' hS => ha.lenV rfl Try.underlying28 w' ) ?_
      refine yS (by kernel_rfl : opAt F40.o1 2 = some (some 10, .move (.tmp 1), none)) rfl rfl (fun w' hS => val_move rfl) ?_
      refine yS (by kernel_rfl : opAt F40.o1 3 = some (some 11, .call { callee := .builtin .len, args := #[(.tmp 10)], argTypes := #[28] }, none)) rfl rfl (fun w' hS => hb.lenV rfl Try.underlying28 w' ) ?_
      refine yS (by kernel_rfl : opAt F40.o1 4 = some (some 12, .binOp .neq 3 (.tmp 9) (.tmp 11) 3, none)) rfl rfl (fun w' hS => val_F (val_neq rfl rfl) (by omega)) ?_
      refine yS (by kernel_rfl : opAt F40.o1 5 = some (some 13, .move (.tmp 12), none)) rfl rfl (fun w' hS => val_move rfl) ?_
      refine yS (by kernel_rfl : opAt F40.o1 6 = some (some 14, .move (.tmp 0), (some (5, false)))) rfl rfl (fun w' hS => val_move rfl) ?_
      refine yS (by kernel_rfl : opAt F40.o1 7 = some (some 15, .call { callee := .builtin .len, args := #[(.tmp 14)], argTypes := #[28] }, (some (5, false)))) rfl rfl (fun w' hS => ha.lenV rfl Try.underlying28 w' ) ?_
      refine yS (by kernel_rfl : opAt F40.o1 8 = some (some 16, .binOp .gtr 3 (.tmp 15) (.const (.int .i64 8)) 3, (some (5, false)))) rfl rfl (fun w' hS => val_gtr rfl rfl) ?_
      refine yS (by kernel_rfl : opAt F40.o1 9 = some (some 17, .pick (.tmp 13) (.const (.bool true)) (.tmp 16), none)) rfl rfl (fun w' hS => val_pick_f rfl rfl) ?_
      exact Sch.nil (hcut _ _ _ (Stp.refl _ _ _) rfl (eq_bool (decide_eq_decide.2 (by omega))) (sub_skip rfl (sub_skip rfl (sub_skip rfl (sub_skip rfl (sub_skip rfl (sub_skip rfl (sub_skip rfl (sub_skip rfl (sub_skip rfl (sub_skip rfl (Sub.refl _))))))))))))
  intro w1 hs
  replace hF := hF.st hs
  replace hT := hT.trans hs (by simp)
  replace ha := ha.st hs (by first | decide | (simp <;> omega))
  replace hb := hb.st hs (by first | decide | (simp <;> omega))
  refine run_if (x := F40.c6) (y := F40.c9) (o := .tmp 17) (by kernel_rfl) rfl (fun h17 => ?_) (fun h17 => ?_)
  · skip
    refine run_seq (x := F40.c7) (y := F40.c8) (by kernel_rfl) ?_
    refine run_plain (id := 2) (ops := F40.o2) [(0, true)] (by kernel_rfl) (by kernel_rfl) ?_
    refine yS (by kernel_rfl : opAt F40.o2 0 = some (some 4, .assign (.const (.int .i64 8)), none)) rfl rfl (fun w' hS => val_assign rfl) ?_
    refine Sch.nil ?_
    refine run_ret1 (by kernel_rfl) Try.func40 Try.results40 rfl ?_
    exact ⟨by unfold chkL; rw [if_pos h17], hT.out1 (by decide)⟩
  · skip
    have hlen : a.length = b.length := by omega
    have h8 : a.length ≤ 8 := by omega
    refine run_skip (by kernel_rfl) ?_
    refine run_seq (x := F40.c11) (y := F40.c43) (by kernel_rfl) ?_
    refine run_seq (x := F40.c12) (y := F40.c13) (by kernel_rfl) ?_
    refine run_plain (id := 3) (ops := F40.o3) [(0, true)] (by kernel_rfl) (by kernel_rfl) ?_
    refine yS (by kernel_rfl : opAt F40.o3 0 = some (some 5, .assign (.const (.int .i64 0)), none)) rfl rfl (fun w' hS => val_assign rfl) ?_
    refine Sch.nil ?_
    refine run_block (x := F40.c14) (id := 0) (by kernel_rfl) ?_
    
    refine run_loop (ι := Nat × (Nat → Nat)) (I := fun x w => x.1 ≤ a.length ∧ checkF (a.drop x.1) (b.drop x.1) = checkF a b ∧ Lim w x.2 ∧ Stp [2, 3, 4, 5, 6, 7, 8, 9] w₀ (col1 C) w x.2 ∧ RV w (Mc x.2) a va ∧ RV w (Mc x.2) b vb) (e := fun x => [(0, va), (1, vb), (5, .int .i64 x.1)]) (m := fun x => a.length - x.1) (x₀ := (0, col1 C)) (body := F40.c15) (by kernel_rfl) (sub_cons 0 rfl rfl (sub_cons 1 rfl rfl (sub_cons 5 rfl rfl (sub_nil _)))) ?_ ?_
    · exact ⟨Nat.zero_le _, rfl, hF, hT, ha, hb⟩
    intro ⟨i, C1⟩ w2 hI next
    obtain ⟨hi, hz, hF, hT, ha, hb⟩ := hI
    try simp only at hi hz hF hT ha hb
    have next1 := next
    clear next
    show Run _ _ _ _ [(0, va), (1, vb), (5, .int .i64 i)] _ _
    have hle := ha.le
    have hle2 := hb.le
    refine run_seq (x := F40.c16) (y := F40.c21) (by kernel_rfl) ?_
    refine run_seq (x := F40.c17) (y := F40.c18) (by kernel_rfl) ?_
    refine run_plain (id := 4) (ops := F40.o4) [(0, true), (1, true), (2, true), (3, true)] (by kernel_rfl) (by kernel_rfl) ?_
    refine yS (by kernel_rfl : opAt F40.o4 0 = some (some 18, .move (.tmp 5), none)) rfl rfl (fun w' hS => val_move rfl) ?_
    refine yS (by kernel_rfl : opAt F40.o4 1 = some (some 19, .move (.tmp 0), none)) rfl rfl (fun w' hS => val_move rfl) ?_
    refine yS (by kernel_rfl : opAt F40.o4 2 = some (some 20, .call { callee := .builtin .len, args := #[(.tmp 19)], argTypes := #[28] }, none)) rfl rfl (fun w' hS => ha.lenV rfl Try.underlying28 w' ) ?_
    refine yS (by kernel_rfl : opAt F40.o4 3 = some (some 21, .binOp .lss 3 (.tmp 18) (.tmp 20) 3, none)) rfl rfl (fun w' hS => val_lss rfl rfl) ?_
    refine Sch.nil ?_
    refine run_if (x := F40.c19) (y := F40.c20) (o := .tmp 21) (by kernel_rfl) rfl (fun h21 => ?_) (fun h21 => ?_)
    · skip
      have hia : i < a.length := by omega
      have hib : i < b.length := by omega
      have hcf := checkF_drop hia hib
      refine run_skip (by kernel_rfl) ?_
      refine run_seq (x := F40.c22) (y := F40.c42) (by kernel_rfl) ?_
      refine run_block (x := F40.c23) (id := 1) (by kernel_rfl) ?_
      refine run_seq (x := F40.c24) (y := F40.c33) (by kernel_rfl) ?_
      refine run_seq (x := F40.c25) (y := F40.c26) (by kernel_rfl) ?_
      refine run_plain (id := 6) (ops := F40.o6) [(0, true), (1, true), (2, true), (3, false), (4, false), (5, true)] (by kernel_rfl) (by kernel_rfl) ?_
      refine yS (by kernel_rfl : opAt F40.o6 0 = some (some 24, .move (.tmp 0), none)) rfl rfl (fun w' hS => val_move rfl) ?_
      refine yS (by kernel_rfl : opAt F40.o6 1 = some (some 25, .move (.tmp 5), none)) rfl rfl (fun w' hS => val_move rfl) ?_
      refine iS (e := 39) (by kernel_rfl : opAt F40.o6 2 = some (some 26, .indexAddr 28 (.tmp 24) (.tmp 25), none)) rfl rfl ha rfl (by kernel_rfl) rfl (by omega) (by omega) ?_
      intro b26 o26 h26
      try simp only [Int.toNat_natCast] at h26
      refine lN (by kernel_rfl : opAt F40.o6 3 = some (some 27, .load 39 (.tmp 26), none)) rfl rfl trivial h26 (by kernel_rfl) rfl rfl ?_
      intro v27 g27
      refine cS (by kernel_rfl : opAt F40.o6 4 = some (some 28, .call { callee := .value (.func 22), args := #[(.tmp 27)], argTypes := #[39] }, none)) rfl rfl (ent Try.call22 rfl) (rcheck_ok hF g27) ?_
      rintro vw3 w3 ⟨rfl, hs⟩
      refine ⟨trivial, ?_⟩
      replace hF := hF.st hs
      replace hT := hT.trans hs (by simp)
      replace ha := ha.st hs (by first | decide | (simp <;> omega))
      replace hb := hb.st hs (by first | decide | (simp <;> omega))
      replace h26 := h26.st hs (by first | decide | (simp <;> omega))
      replace g27 := g27.st hs (by first | decide | (simp <;> omega))
      refine yS (by kernel_rfl : opAt F40.o6 5 = some (some 6, .assign (.tmp 28), none)) rfl rfl (fun w' hS => val_assign rfl) ?_
      refine Sch.nil ?_
      refine run_seq (x := F40.c27) (y := F40.c28) (by kernel_rfl) ?_
      refine run_plain (id := 7) (ops := F40.o7) [(0, true), (1, true)] (by kernel_rfl) (by kernel_rfl) ?_
      refine yS (by kernel_rfl : opAt F40.o7 0 = some (some 29, .move (.tmp 6), none)) rfl rfl (fun w' hS => val_move rfl) ?_
      refine yS (by kernel_rfl : opAt F40.o7 1 = some (some 30, .binOp .neq 31 (.tmp 29) (.const (.int .i64 0)) 31, none)) rfl rfl (fun w' hS => val_neq rfl rfl) ?_
      refine Sch.nil ?_
      refine run_if (x := F40.c29) (y := F40.c32) (o := .tmp 30) (by kernel_rfl) rfl (fun h30 => ?_) (fun h30 => ?_)
      · skip
        rw [orL2_a h30, if_neg h30] at hcf
        rw [hcf] at hz
        refine run_seq (x := F40.c30) (y := F40.c31) (by kernel_rfl) ?_
        refine run_plain (id := 8) (ops := F40.o8) [(0, true), (1, true)] (by kernel_rfl) (by kernel_rfl) ?_
        refine yS (by kernel_rfl : opAt F40.o8 0 = some (some 31, .move (.tmp 6), none)) rfl rfl (fun w' hS => val_move rfl) ?_
        refine yS (by kernel_rfl : opAt F40.o8 1 = some (some 4, .assign (.tmp 31), none)) rfl rfl (fun w' hS => val_assign rfl) ?_
        refine Sch.nil ?_
        refine run_ret1 (by kernel_rfl) Try.func40 Try.results40 rfl ?_
        exact ⟨by unfold chkL; rw [if_neg (by omega), ← hz], hT.out1 (by decide)⟩
      · skip
        have h30 : checkS a[i] = 0 := by simpa using h30
        rw [orL2_b h30] at hcf
        refine run_skip (by kernel_rfl) ?_
        refine run_seq (x := F40.c34) (y := F40.c35) (by kernel_rfl) ?_
        refine run_plain (id := 9) (ops := F40.o9) [(0, true), (1, true), (2, true), (3, false), (4, false), (5, true)] (by kernel_rfl) (by kernel_rfl) ?_
        refine yS (by kernel_rfl : opAt F40.o9 0 = some (some 32, .move (.tmp 1), none)) rfl rfl (fun w' hS => val_move rfl) ?_
        refine yS (by kernel_rfl : opAt F40.o9 1 = some (some 33, .move (.tmp 5), none)) rfl rfl (fun w' hS => val_move rfl) ?_
        refine iS (e := 39) (by kernel_rfl : opAt F40.o9 2 = some (some 34, .indexAddr 28 (.tmp 32) (.tmp 33), none)) rfl rfl hb rfl (by kernel_rfl) rfl (by omega) (by omega) ?_
        intro b34 o34 h34
        try simp only [Int.toNat_natCast] at h34
        refine lN (by kernel_rfl : opAt F40.o9 3 = some (some 35, .load 39 (.tmp 34), none)) rfl rfl trivial h34 (by kernel_rfl) rfl rfl ?_
        intro v35 g35
        refine cS (by kernel_rfl : opAt F40.o9 4 = some (some 36, .call { callee := .value (.func 22), args := #[(.tmp 35)], argTypes := #[39] }, none)) rfl rfl (ent Try.call22 rfl) (rcheck_ok hF g35) ?_
        rintro vw4 w4 ⟨rfl, hs⟩
        refine ⟨trivial, ?_⟩
        replace hF := hF.st hs
        replace hT := hT.trans hs (by simp)
        replace ha := ha.st hs (by first | decide | (simp <;> omega))
        replace hb := hb.st hs (by first | decide | (simp <;> omega))
        replace h26 := h26.st hs (by first | decide | (simp <;> omega))
        replace g27 := g27.st hs (by first | decide | (simp <;> omega))
        replace h34 := h34.st hs (by first | decide | (simp <;> omega))
        replace g35 := g35.st hs (by first | decide | (simp <;> omega))
        refine yS (by kernel_rfl : opAt F40.o9 5 = some (some 7, .assign (.tmp 36), none)) rfl rfl (fun w' hS => val_assign rfl) ?_
        refine Sch.nil ?_
        refine run_seq (x := F40.c36) (y := F40.c37) (by kernel_rfl) ?_
        refine run_plain (id := 10) (ops := F40.o10) [(0, true), (1, true)] (by kernel_rfl) (by kernel_rfl) ?_
        refine yS (by kernel_rfl : opAt F40.o10 0 = some (some 37, .move (.tmp 7), none)) rfl rfl (fun w' hS => val_move rfl) ?_
        refine yS (by kernel_rfl : opAt F40.o10 1 = some (some 38, .binOp .neq 31 (.tmp 37) (.const (.int .i64 0)) 31, none)) rfl rfl (fun w' hS => val_neq rfl rfl) ?_
        refine Sch.nil ?_
        refine run_if (x := F40.c38) (y := F40.c41) (o := .tmp 38) (by kernel_rfl) rfl (fun h38 => ?_) (fun h38 => ?_)
        · skip
          rw [if_neg h38] at hcf
          rw [hcf] at hz
          refine run_seq (x := F40.c39) (y := F40.c40) (by kernel_rfl) ?_
          refine run_plain (id := 11) (ops := F40.o11) [(0, true), (1, true)] (by kernel_rfl) (by kernel_rfl) ?_
          refine yS (by kernel_rfl : opAt F40.o11 0 = some (some 39, .move (.tmp 7), none)) rfl rfl (fun w' hS => val_move rfl) ?_
          refine yS (by kernel_rfl : opAt F40.o11 1 = some (some 4, .assign (.tmp 39), none)) rfl rfl (fun w' hS => val_assign rfl) ?_
          refine Sch.nil ?_
          refine run_ret1 (by kernel_rfl) Try.func40 Try.results40 rfl ?_
          exact ⟨by unfold chkL; rw [if_neg (by omega), ← hz], hT.out1 (by decide)⟩
        · skip
          have h38 : checkS b[i] = 0 := by simpa using h38
          rw [if_pos h38] at hcf
          refine run_skip (by kernel_rfl) ?_
          refine run_inBlock ?_
          refine run_plain (id := 5) (ops := F40.o5) [(0, true), (1, true), (2, true)] (by kernel_rfl) (by kernel_rfl) ?_
          refine yS (by kernel_rfl : opAt F40.o5 0 = some (some 22, .move (.tmp 5), none)) rfl rfl (fun w' hS => val_move rfl) ?_
          refine yS (by kernel_rfl : opAt F40.o5 1 = some (some 23, .binOp .add 3 (.tmp 22) (.const (.int .i64 1)) 3, none)) rfl rfl (fun w' hS => val_addi rfl rfl (by omega) (by omega)) ?_
          refine yS (by kernel_rfl : opAt F40.o5 2 = some (some 5, .assign (.tmp 23), none)) rfl rfl (fun w' hS => val_assign rfl) ?_
          refine Sch.nil ?_
          refine kp (sub_cons 0 rfl rfl (sub_cons 1 rfl rfl (sub_cons 5 rfl (eq_int (by simp)) (sub_nil _)))) (next1 (i + 1, C1) _ ⟨(by first | omega | (simp only; omega)), (by rw [← hcf]; exact hz), hF, hT, ha, hb⟩ (by first | omega | (simp only; omega)))
    · skip
      obtain rfl : i = a.length := by omega
      rw [List.drop_length, checkF_nil] at hz
      refine run_exit (id := 0) (by kernel_rfl) rfl ?_
      refine run_seq (x := F40.c44) (y := F40.c45) (by kernel_rfl) ?_
      refine run_plain (id := 12) (ops := F40.o12) [(0, true)] (by kernel_rfl) (by kernel_rfl) ?_
      refine yS (by kernel_rfl : opAt F40.o12 0 = some (some 4, .assign (.const (.int .i64 0)), none)) rfl rfl (fun w' hS => val_assign rfl) ?_
      refine Sch.nil ?_
      refine run_ret1 (by kernel_rfl) Try.func40 Try.results40 rfl ?_
      exact ⟨by unfold chkL; rw [if_neg (by omega), ← hz], hT.out1 (by decide)⟩
namespace F38
noncomputable def c0 : Code := bodyOf Try.f38
noncomputable def c1 : Code := cl c0
noncomputable def o0 : Array Oper := rops c1
noncomputable def c2 : Code := cr c0
noncomputable def c3 : Code := cl c2
noncomputable def c4 : Code := cl c3
noncomputable def o1 : Array Oper := rops c4
noncomputable def c5 : Code := cr c3
noncomputable def c6 : Code := cl c5
noncomputable def o2 : Array Oper := rops c6
noncomputable def c7 : Code := cr c5
noncomputable def c8 : Code := cl c7
noncomputable def c9 : Code := cl c8
noncomputable def o3 : Array Oper := rops c9
noncomputable def c10 : Code := cr c8
noncomputable def c11 : Code := cr c7
noncomputable def c12 : Code := cr c2
noncomputable def c13 : Code := cl c12
noncomputable def c14 : Code := cl c13
noncomputable def o4 : Array Oper := rops c14
noncomputable def c15 : Code := cr c13
noncomputable def c16 : Code := cl c15
noncomputable def c17 : Code := cl c16
noncomputable def o5 : Array Oper := rops c17
noncomputable def c18 : Code := cr c16
noncomputable def c19 : Code := cr c15
noncomputable def c20 : Code := cr c12
noncomputable def c21 : Code := cl c20
noncomputable def o6 : Array Oper := rops c21
noncomputable def c22 : Code := cr c20
end F38
/-- The specification's 'masked'. -/
theorem rmasked_ok {w₀ : World} {C : Nat → Nat} {a b : List (List Block)} {va vb : Value} (hF : Lim w₀ C) (ha : RV w₀ (Mc C) a va) (hb : RV w₀ (Mc C) b vb) (mask : Int) : Calls Try.prog 38 #[va, vb, .int .i64 mask] w₀ (Ret fun v w' => v = .int .i64 (checkM a b mask) ∧ Stp [] w₀ C w' C) := by
  have hF0 := hF
  have hT := Stp.refl [2, 3, 4, 5, 6, 7, 8, 9] w₀ (col1 C)
  replace hF := hF.col1
  replace ha : RV w₀ (Mc (col1 C)) a va := by rw [Mc_col1]; exact ha
  replace hb : RV w₀ (Mc (col1 C)) b vb := by rw [Mc_col1]; exact hb
  refine calls_start (c := F38.c0) (N := 23) [va, vb, .int .i64 mask] Try.func38 (by kernel_rfl) (by kernel_rfl) (by kernel_rfl) ?_
  show Run _ _ _ _ [(0, va), (1, vb), (2, .int .i64 mask)] _ _
  refine run_seq (x := F38.c1) (y := F38.c2) (by kernel_rfl) ?_
  refine run_plain (id := 0) (ops := F38.o0) [(0, true)] (by kernel_rfl) (by kernel_rfl) ?_
  refine yS (by kernel_rfl : opAt F38.o0 0 = some (some 6, .assign (.const (.int .i64 0)), none)) rfl rfl (fun w' hS => val_assign rfl) ?_
  refine Sch.nil ?_
  refine run_seq (x := F38.c3) (y := F38.c12) (by kernel_rfl) ?_
  refine run_seq (x := F38.c4) (y := F38.c5) (by kernel_rfl) ?_
  refine run_plain (id := 1) (ops := F38.o1) [(0, true), (1, true), (2, false), (3, true)] (by kernel_rfl) (by kernel_rfl) ?_
  refine yS (by kernel_rfl : opAt F38.o1 0 = some (some 8, .move (.tmp 0), none)) rfl rfl (fun w' hS => val_move rfl) ?_
  refine yS (by kernel_rfl : opAt F38.o1 1 = some (some 9, .move (.tmp 1), none)) rfl rfl (fun w' hS => val_move rfl) ?_
  refine cS (by kernel_rfl : opAt F38.o1 2 = some (some 10, .call { callee := .value (.func 40), args := #[(.tmp 8), (.tmp 9)], argTypes := #[28, 28] }, none)) rfl rfl (ent Try.call40 rfl) (rchk_ok hF ha hb) ?_
  rintro vw1 w1 ⟨rfl, hs⟩
  refine ⟨trivial, ?_⟩
  replace hF := hF.st hs
  replace hT := hT.trans hs (by simp)
  replace ha := ha.st hs (by first | decide | (simp <;> omega))
  replace hb := hb.st hs (by first | decide | (simp <;> omega))
  refine yS (by kernel_rfl : opAt F38.o1 3 = some (some 7, .assign (.tmp 10), none)) rfl rfl (fun w' hS => val_assign rfl) ?_
  refine Sch.nil ?_
  refine run_seq (x := F38.c6) (y := F38.c7) (by kernel_rfl) ?_
  refine run_plain (id := 2) (ops := F38.o2) [(0, true), (1, true)] (by kernel_rfl) (by kernel_rfl) ?_
  refine yS (by kernel_rfl : opAt F38.o2 0 = some (some 11, .move (.tmp 7), none)) rfl rfl (fun w' hS => val_move rfl) ?_
  refine yS (by kernel_rfl : opAt F38.o2 1 = some (some 12, .binOp .neq 31 (.tmp 11) (.const (.int .i64 0)) 31, none)) rfl rfl (fun w' hS => val_neq rfl rfl) ?_
  refine Sch.nil ?_
  refine run_if (x := F38.c8) (y := F38.c11) (o := .tmp 12) (by kernel_rfl) rfl (fun h12 => ?_) (fun h12 => ?_)
  · skip
    refine run_seq (x := F38.c9) (y := F38.c10) (by kernel_rfl) ?_
    refine run_plain (id := 3) (ops := F38.o3) [(0, true), (1, true)] (by kernel_rfl) (by kernel_rfl) ?_
    refine yS (by kernel_rfl : opAt F38.o3 0 = some (some 13, .move (.tmp 7), none)) rfl rfl (fun w' hS => val_move rfl) ?_
    refine yS (by kernel_rfl : opAt F38.o3 1 = some (some 6, .assign (.tmp 13), none)) rfl rfl (fun w' hS => val_assign rfl) ?_
    refine Sch.nil ?_
    refine run_ret1 (by kernel_rfl) Try.func38 Try.results38 rfl ?_
    exact ⟨by rw [chkM_err h12 mask], hT.out1 (by decide)⟩
  · skip
    have hz : chkL a b = 0 := by simpa using h12
    obtain ⟨hlen, h8, _⟩ := chkL_zero hz
    have hp : (2 : Int) ^ a.length = ((2 ^ a.length : Nat) : Int) := by simp
    have hm := chkM_ok hz mask
    refine run_skip (by kernel_rfl) ?_
    refine run_seq (x := F38.c13) (y := F38.c20) (by kernel_rfl) ?_
    refine run_seq (x := F38.c14) (y := F38.c15) (by kernel_rfl) ?_
    refine run_cut 22 (decide (mask < 0 ∨ (2 : Int) ^ a.length ≤ mask)) (col1 C) ?_ ?_
    · intro hcut
      by_cases hA : mask < 0
      · skip
        refine run_plain (id := 4) (ops := F38.o4) [(0, true), (1, true), (2, true), (3, true), (4, true), (5, true), (6, true), (7, true), (8, true)] (by kernel_rfl) (by kernel_rfl) ?_
        refine yS (by kernel_rfl : opAt F38.o4 0 = some (some 14, .move (.tmp 2), none)) rfl rfl (fun w' hS => val_move rfl) ?_
        refine yS (by kernel_rfl : opAt F38.o4 1 = some (some 15, .binOp .lss 3 (.tmp 14) (.const (.int .i64 0)) 3, none)) rfl rfl (fun w' hS => val_T (val_lss rfl rfl) hA) ?_
        refine yS (by kernel_rfl : opAt F38.o4 2 = some (some 16, .move (.tmp 15), none)) rfl rfl (fun w' hS => val_move rfl) ?_
        refine pS (by kernel_rfl : opAt F38.o4 3 = some (some 17, .move (.tmp 2), (some (2, false)))) rfl rfl ?_
        refine pS (by kernel_rfl : opAt F38.o4 4 = some (some 18, .move (.tmp 0), (some (2, false)))) rfl rfl ?_
        refine pS (by kernel_rfl : opAt F38.o4 5 = some (some 19, .call { callee := .builtin .len, args := #[(.tmp 18)], argTypes := #[28] }, (some (2, false)))) rfl rfl ?_
        refine pS (by kernel_rfl : opAt F38.o4 6 = some (some 20, .binOp .shl 3 (.const (.int .i64 1)) (.tmp 19) 3, (some (2, false)))) rfl rfl ?_
        refine pS (by kernel_rfl : opAt F38.o4 7 = some (some 21, .binOp .geq 3 (.tmp 17) (.tmp 20) 3, (some (2, false)))) rfl rfl ?_
        refine yS (by kernel_rfl : opAt F38.o4 8 = some (some 22, .pick (.tmp 16) (.const (.bool true)) (.tmp 21), none)) rfl rfl (fun w' hS => val_pick_t rfl rfl) ?_
        exact Sch.nil (hcut _ _ _ (Stp.refl _ _ _) rfl (eq_bool (decide_eq_true (Or.inl hA)).symm) (sub_skip rfl (sub_skip rfl (sub_skip rfl (sub_skip rfl (sub_skip rfl (sub_skip rfl (sub_skip rfl (sub_skip rfl (sub_skip rfl (Sub.refl _)))))))))))
      · skip
        refine run_plain (id := 4) (ops := F38.o4) [(0, true), (1, true), (2, true), (3, true), (4, true), (5, true), (6, true), (7, true), (8, true)] (by kernel_rfl) (by kernel_rfl) ?_
        refine yS (by kernel_rfl : opAt F38.o4 0 = some (some 14, .move (.tmp 2), none)) rfl rfl (fun w' hS => val_move rfl) ?_
        refine yS (by kernel_rfl : opAt F38.o4 1 = some (some 15, .binOp .lss 3 (.tmp 14) (.const (.int .i64 0)) 3, none)) rfl rfl (fun w' hS => val_F (val_lss rfl rfl) hA) ?_
        refine yS (by kernel_rfl : opAt F38.o4 2 = some (some 16, .move (.tmp 15), none)) rfl rfl (fun w' hS => val_move rfl) ?_
        refine yS (by kernel_rfl : opAt F38.o4 3 = some (some 17, .move (.tmp 2), (some (2, false)))) rfl rfl (fun w' hS => val_move rfl) ?_
        refine yS (by kernel_rfl : opAt F38.o4 4 = some (some 18, .move (.tmp 0), (some (2, false)))) rfl rfl (fun w' hS => val_move rfl) ?_
        refine yS (by kernel_rfl : opAt F38.o4 5 = some (some 19, .call { callee := .builtin .len, args := #[(.tmp 18)], argTypes := #[28] }, (some (2, false)))) rfl rfl (fun w' hS => ha.lenV rfl Try.underlying28 w' ) ?_
        refine yS (by kernel_rfl : opAt F38.o4 6 = some (some 20, .binOp .shl 3 (.const (.int .i64 1)) (.tmp 19) 3, (some (2, false)))) rfl rfl (fun w' hS => val_shlE (r := ((2 ^ a.length : Nat) : Int)) rfl rfl (by omega) (shl1N (by omega))) ?_
        refine yS (by kernel_rfl : opAt F38.o4 7 = some (some 21, .binOp .geq 3 (.tmp 17) (.tmp 20) 3, (some (2, false)))) rfl rfl (fun w' hS => val_geq rfl rfl) ?_
        refine yS (by kernel_rfl : opAt F38.o4 8 = some (some 22, .pick (.tmp 16) (.const (.bool true)) (.tmp 21), none)) rfl rfl (fun w' hS => val_pick_f rfl rfl) ?_
        exact Sch.nil (hcut _ _ _ (Stp.refl _ _ _) rfl (eq_bool (decide_eq_decide.2 (by rw [hp]; omega))) (sub_skip rfl (sub_skip rfl (sub_skip rfl (sub_skip rfl (sub_skip rfl (sub_skip rfl (sub_skip rfl (sub_skip rfl (sub_skip rfl (Sub.refl _)))))))))))
    intro w2 hs
    replace hF := hF.st hs
    replace hT := hT.trans hs (by simp)
    replace ha := ha.st hs (by first | decide | (simp <;> omega))
    replace hb := hb.st hs (by first | decide | (simp <;> omega))
    refine run_if (x := F38.c16) (y := F38.c19) (o := .tmp 22) (by kernel_rfl) rfl (fun h22 => ?_) (fun h22 => ?_)
    · skip
      refine run_seq (x := F38.c17) (y := F38.c18) (by kernel_rfl) ?_
      refine run_plain (id := 5) (ops := F38.o5) [(0, true)] (by kernel_rfl) (by kernel_rfl) ?_
      refine yS (by kernel_rfl : opAt F38.o5 0 = some (some 6, .assign (.const (.int .i64 2)), none)) rfl rfl (fun w' hS => val_assign rfl) ?_
      refine Sch.nil ?_
      refine run_ret1 (by kernel_rfl) Try.func38 Try.results38 rfl ?_
      exact ⟨by rw [hm, if_pos h22], hT.out1 (by decide)⟩
    · skip
      refine run_skip (by kernel_rfl) ?_
      refine run_seq (x := F38.c21) (y := F38.c22) (by kernel_rfl) ?_
      refine run_plain (id := 6) (ops := F38.o6) [(0, true)] (by kernel_rfl) (by kernel_rfl) ?_
      refine yS (by kernel_rfl : opAt F38.o6 0 = some (some 6, .assign (.const (.int .i64 0)), none)) rfl rfl (fun w' hS => val_assign rfl) ?_
      refine Sch.nil ?_
      refine run_ret1 (by kernel_rfl) Try.func38 Try.results38 rfl ?_
      exact ⟨by rw [hm, if_neg h22], hT.out1 (by decide)⟩
namespace F23
noncomputable def c0 : Code := bodyOf Try.f23
noncomputable def c1 : Code := cl c0
noncomputable def o0 : Array Oper := rops c1
noncomputable def c2 : Code := cr c0
noncomputable def c3 : Code := cl c2
noncomputable def c4 : Code := cl c3
noncomputable def o1 : Array Oper := rops c4
noncomputable def c5 : Code := cr c3
noncomputable def c6 : Code := cl c5
noncomputable def o2 : Array Oper := rops c6
noncomputable def c7 : Code := cr c5
noncomputable def c8 : Code := cl c7
noncomputable def c9 : Code := cl c8
noncomputable def o3 : Array Oper := rops c9
noncomputable def c10 : Code := cr c8
noncomputable def c11 : Code := cr c7
noncomputable def c12 : Code := cr c2
noncomputable def c13 : Code := cl c12
noncomputable def o4 : Array Oper := rops c13
noncomputable def c14 : Code := cr c12
noncomputable def c15 : Code := cl c14
noncomputable def o5 : Array Oper := rops c15
noncomputable def c16 : Code := cr c14
noncomputable def c17 : Code := cl c16
noncomputable def c18 : Code := cl c17
noncomputable def o6 : Array Oper := rops c18
noncomputable def c19 : Code := cr c17
noncomputable def c20 : Code := cl c19
noncomputable def c21 : Code := cl c20
noncomputable def c22 : Code := cl c21
noncomputable def c23 : Code := cl c22
noncomputable def o7 : Array Oper := rops c23
noncomputable def c24 : Code := cr c22
noncomputable def c25 : Code := cl c24
noncomputable def c26 : Code := cr c24
noncomputable def c27 : Code := cr c21
noncomputable def c28 : Code := cl c27
noncomputable def c29 : Code := cl c28
noncomputable def c30 : Code := cl c29
noncomputable def o9 : Array Oper := rops c30
noncomputable def c31 : Code := cr c29
noncomputable def c32 : Code := cl c31
noncomputable def o10 : Array Oper := rops c32
noncomputable def c33 : Code := cr c31
noncomputable def c34 : Code := cr c27
noncomputable def o8 : Array Oper := rops c34
noncomputable def c35 : Code := cr c16
noncomputable def c36 : Code := cl c35
noncomputable def o11 : Array Oper := rops c36
noncomputable def c37 : Code := cr c35
end F23
/-- The specification's 'Agreeing'. -/
theorem ragreeing_ok {w₀ : World} {C : Nat → Nat} {a b : List (List Block)} {va vb : Value} (hF : Lim w₀ C) (ha : RV w₀ (Mc C) a va) (hb : RV w₀ (Mc C) b vb) (mask : Int) : Calls Try.prog 23 #[va, vb, .int .i64 mask] w₀ (Ret fun v w' => v = .tuple #[.int .i64 (if checkM a b mask ≠ 0 ∨ mask = 0 then 0 else agreeS a b mask.toNat : Nat), .int .i64 (checkM a b mask)] ∧ Stp [] w₀ C w' C) := by
  have hF0 := hF
  have hT := Stp.refl [2, 3, 4, 5, 6, 7, 8, 9] w₀ (col1 C)
  replace hF := hF.col1
  replace ha : RV w₀ (Mc (col1 C)) a va := by rw [Mc_col1]; exact ha
  replace hb : RV w₀ (Mc (col1 C)) b vb := by rw [Mc_col1]; exact hb
  refine calls_start (c := F23.c0) (N := 47) [va, vb, .int .i64 mask] Try.func23 (by kernel_rfl) (by kernel_rfl) (by kernel_rfl) ?_
  show Run _ _ _ _ [(0, va), (1, vb), (2, .int .i64 mask)] _ _
  refine run_seq (x := F23.c1) (y := F23.c2) (by kernel_rfl) ?_
  refine run_plain (id := 0) (ops := F23.o0) [(0, true), (1, true)] (by kernel_rfl) (by kernel_rfl) ?_
  refine yS (by kernel_rfl : opAt F23.o0 0 = some (some 6, .assign (.const (.int .i64 0)), none)) rfl rfl (fun w' hS => val_assign rfl) ?_
  refine yS (by kernel_rfl : opAt F23.o0 1 = some (some 7, .assign (.const (.int .i64 0)), none)) rfl rfl (fun w' hS => val_assign rfl) ?_
  refine Sch.nil ?_
  refine run_seq (x := F23.c3) (y := F23.c12) (by kernel_rfl) ?_
  refine run_seq (x := F23.c4) (y := F23.c5) (by kernel_rfl) ?_
  refine run_plain (id := 1) (ops := F23.o1) [(0, true), (1, true), (2, true), (3, false), (4, true)] (by kernel_rfl) (by kernel_rfl) ?_
  refine yS (by kernel_rfl : opAt F23.o1 0 = some (some 13, .move (.tmp 0), none)) rfl rfl (fun w' hS => val_move rfl) ?_
  refine yS (by kernel_rfl : opAt F23.o1 1 = some (some 14, .move (.tmp 1), none)) rfl rfl (fun w' hS => val_move rfl) ?_
  refine yS (by kernel_rfl : opAt F23.o1 2 = some (some 15, .move (.tmp 2), none)) rfl rfl (fun w' hS => val_move rfl) ?_
  refine cS (by kernel_rfl : opAt F23.o1 3 = some (some 16, .call { callee := .value (.func 38), args := #[(.tmp 13), (.tmp 14), (.tmp 15)], argTypes := #[28, 28, 3] }, none)) rfl rfl (ent Try.call38 rfl) (rmasked_ok hF ha hb mask) ?_
  rintro vw1 w1 ⟨rfl, hs⟩
  refine ⟨trivial, ?_⟩
  replace hF := hF.st hs
  replace hT := hT.trans hs (by simp)
  replace ha := ha.st hs (by first | decide | (simp <;> omega))
  replace hb := hb.st hs (by first | decide | (simp <;> omega))
  refine yS (by kernel_rfl : opAt F23.o1 4 = some (some 8, .assign (.tmp 16), none)) rfl rfl (fun w' hS => val_assign rfl) ?_
  refine Sch.nil ?_
  refine run_seq (x := F23.c6) (y := F23.c7) (by kernel_rfl) ?_
  refine run_plain (id := 2) (ops := F23.o2) [(0, true), (1, true)] (by kernel_rfl) (by kernel_rfl) ?_
  refine yS (by kernel_rfl : opAt F23.o2 0 = some (some 17, .move (.tmp 8), none)) rfl rfl (fun w' hS => val_move rfl) ?_
  refine yS (by kernel_rfl : opAt F23.o2 1 = some (some 18, .binOp .neq 31 (.tmp 17) (.const (.int .i64 0)) 31, none)) rfl rfl (fun w' hS => val_neq rfl rfl) ?_
  refine Sch.nil ?_
  refine run_if (x := F23.c8) (y := F23.c11) (o := .tmp 18) (by kernel_rfl) rfl (fun h18 => ?_) (fun h18 => ?_)
  · skip
    refine run_seq (x := F23.c9) (y := F23.c10) (by kernel_rfl) ?_
    refine run_plain (id := 3) (ops := F23.o3) [(0, true), (1, true), (2, true)] (by kernel_rfl) (by kernel_rfl) ?_
    refine yS (by kernel_rfl : opAt F23.o3 0 = some (some 19, .move (.tmp 8), none)) rfl rfl (fun w' hS => val_move rfl) ?_
    refine yS (by kernel_rfl : opAt F23.o3 1 = some (some 6, .assign (.const (.int .i64 0)), none)) rfl rfl (fun w' hS => val_assign rfl) ?_
    refine yS (by kernel_rfl : opAt F23.o3 2 = some (some 7, .assign (.tmp 19), none)) rfl rfl (fun w' hS => val_assign rfl) ?_
    refine Sch.nil ?_
    refine run_ret2 (by kernel_rfl) Try.func23 Try.results23 rfl rfl ?_
    exact ⟨by rw [if_pos (Or.inl h18)]; rfl, hT.out1 (by decide)⟩
  · skip
    have hz : checkM a b mask = 0 := by simpa using h18
    obtain ⟨hca, hcb, hlen, h8, hBa, hBb⟩ := cplS_agree' hz
    have hcl := cplS_len hz
    obtain ⟨_, _, mk, rfl, hmk⟩ := checkM_zero hz
    refine run_skip (by kernel_rfl) ?_
    refine run_seq (x := F23.c13) (y := F23.c14) (by kernel_rfl) ?_
    refine run_plain (id := 4) (ops := F23.o4) [(0, true), (1, true), (2, false), (3, true), (4, true), (5, true), (6, true), (7, true)] (by kernel_rfl) (by kernel_rfl) ?_
    refine yS (by kernel_rfl : opAt F23.o4 0 = some (some 21, .move (.tmp 0), none)) rfl rfl (fun w' hS => val_move rfl) ?_
    refine yS (by kernel_rfl : opAt F23.o4 1 = some (some 22, .move (.tmp 1), none)) rfl rfl (fun w' hS => val_move rfl) ?_
    refine cS (by kernel_rfl : opAt F23.o4 2 = some (some 23, .call { callee := .value (.func 39), args := #[(.tmp 21), (.tmp 22)], argTypes := #[28, 28] }, none)) rfl rfl (ent Try.call39 rfl) (couples_ok hF ha hb hBa hBb hlen h8) ?_
    rintro vw2 w2 ⟨vu, vm, rfl, hs, hu, hm⟩
    refine ⟨trivial, ?_⟩
    replace hF := hF.st hs
    replace hT := hT.trans hs (by simp)
    replace ha := ha.st hs (by first | decide | (simp <;> omega))
    replace hb := hb.st hs (by first | decide | (simp <;> omega))
    obtain ⟨p, hp⟩ : ∃ p, p = cplS a b := ⟨_, rfl⟩
    have hps : ∀ q (h : q < p.length), (p[q]).2 < 256 := fun q h => by subst hp; exact cplS_small h8 (List.getElem_mem h)
    rw [← hp] at hu hm hcl
    refine yS (by kernel_rfl : opAt F23.o4 3 = some (some 20, .move (.tmp 23), none)) rfl rfl (fun w' hS => val_move rfl) ?_
    refine yS (by kernel_rfl : opAt F23.o4 4 = some (some 24, .extract (.tmp 20) 0, none)) rfl rfl (fun w' hS => val_extract rfl rfl) ?_
    refine yS (by kernel_rfl : opAt F23.o4 5 = some (some 25, .extract (.tmp 20) 1, none)) rfl rfl (fun w' hS => val_extract rfl rfl) ?_
    refine yS (by kernel_rfl : opAt F23.o4 6 = some (some 9, .assign (.tmp 24), none)) rfl rfl (fun w' hS => val_assign rfl) ?_
    refine yS (by kernel_rfl : opAt F23.o4 7 = some (some 10, .assign (.tmp 25), none)) rfl rfl (fun w' hS => val_assign rfl) ?_
    refine Sch.nil ?_
    refine run_seq (x := F23.c15) (y := F23.c16) (by kernel_rfl) ?_
    refine run_plain (id := 5) (ops := F23.o5) [(0, true)] (by kernel_rfl) (by kernel_rfl) ?_
    refine yS (by kernel_rfl : opAt F23.o5 0 = some (some 11, .assign (.const (.int .i64 0)), none)) rfl rfl (fun w' hS => val_assign rfl) ?_
    refine Sch.nil ?_
    refine run_seq (x := F23.c17) (y := F23.c35) (by kernel_rfl) ?_
    refine run_seq (x := F23.c18) (y := F23.c19) (by kernel_rfl) ?_
    refine run_plain (id := 6) (ops := F23.o6) [(0, true)] (by kernel_rfl) (by kernel_rfl) ?_
    refine yS (by kernel_rfl : opAt F23.o6 0 = some (some 12, .assign (.const (.int .i64 0)), none)) rfl rfl (fun w' hS => val_assign rfl) ?_
    refine Sch.nil ?_
    refine run_block (x := F23.c20) (id := 0) (by kernel_rfl) ?_
    
    refine run_loop (ι := Nat × (Nat → Nat)) (I := fun x w => x.1 ≤ p.length ∧ Lim w x.2 ∧ Stp [2, 3, 4, 5, 6, 7, 8, 9] w₀ (col1 C) w x.2 ∧ RV w (Mc x.2) (p.map (·.2)) vm) (e := fun x => [(2, .int .i64 (mk : Int)), (10, vm), (11, .int .i64 (((p.take x.1).filter (fun x => decide (0 < mk) && alls mk x)).length : Nat)), (12, .int .i64 x.1)]) (m := fun x => p.length - x.1) (x₀ := (0, col1 C)) (body := F23.c21) (by kernel_rfl) (sub_cons 2 rfl rfl (sub_cons 10 rfl rfl (sub_cons 11 rfl rfl (sub_cons 12 rfl rfl (sub_nil _))))) ?_ ?_
    · exact ⟨Nat.zero_le _, hF, hT, hm⟩
    intro ⟨i, C1⟩ w3 hI next
    obtain ⟨hi, hF, hT, hm⟩ := hI
    try simp only at hi hF hT hm
    have next1 := next
    clear next
    show Run _ _ _ _ [(2, .int .i64 (mk : Int)), (10, vm), (11, .int .i64 (((p.take i).filter (fun x => decide (0 < mk) && alls mk x)).length : Nat)), (12, .int .i64 i)] _ _
    have hml : (p.map (·.2)).length = p.length := List.length_map ..
    have hfl := filter_takeL (fun x => decide (0 < mk) && alls mk x) p i
    refine run_seq (x := F23.c22) (y := F23.c27) (by kernel_rfl) ?_
    refine run_seq (x := F23.c23) (y := F23.c24) (by kernel_rfl) ?_
    refine run_plain (id := 7) (ops := F23.o7) [(0, true), (1, true), (2, true), (3, true)] (by kernel_rfl) (by kernel_rfl) ?_
    refine yS (by kernel_rfl : opAt F23.o7 0 = some (some 26, .move (.tmp 12), none)) rfl rfl (fun w' hS => val_move rfl) ?_
    refine yS (by kernel_rfl : opAt F23.o7 1 = some (some 27, .move (.tmp 10), none)) rfl rfl (fun w' hS => val_move rfl) ?_
    refine yS (by kernel_rfl : opAt F23.o7 2 = some (some 28, .call { callee := .builtin .len, args := #[(.tmp 27)], argTypes := #[22] }, none)) rfl rfl (fun w' hS => hm.lenV rfl Try.underlying22 w' ) ?_
    refine yS (by kernel_rfl : opAt F23.o7 3 = some (some 29, .binOp .lss 3 (.tmp 26) (.tmp 28) 3, none)) rfl rfl (fun w' hS => val_lss rfl rfl) ?_
    refine Sch.nil ?_
    refine run_if (x := F23.c25) (y := F23.c26) (o := .tmp 29) (by kernel_rfl) rfl (fun h29 => ?_) (fun h29 => ?_)
    · skip
      have hil : i < p.length := by omega
      have hgm : (p.map (·.2))[i] = p[i].2 := List.getElem_map ..
      have hp8 := hps i hil
      have hft := filter_takeS (fun x => decide (0 < mk) && alls mk x) hil
      refine run_skip (by kernel_rfl) ?_
      refine run_seq (x := F23.c28) (y := F23.c34) (by kernel_rfl) ?_
      refine run_block (x := F23.c29) (id := 1) (by kernel_rfl) ?_
      refine run_seq (x := F23.c30) (y := F23.c31) (by kernel_rfl) ?_
      refine run_cut 43 ((fun x => decide (0 < mk) && alls mk x) p[i]) (C1) ?_ ?_
      · intro hcut
        by_cases hA : (0 : Int) < mk
        · skip
          refine run_plain (id := 9) (ops := F23.o9) [(0, true), (1, true), (2, true), (3, true), (4, true), (5, true), (6, false), (7, true), (8, true), (9, true), (10, true), (11, true)] (by kernel_rfl) (by kernel_rfl) ?_
          refine yS (by kernel_rfl : opAt F23.o9 0 = some (some 32, .move (.tmp 2), none)) rfl rfl (fun w' hS => val_move rfl) ?_
          refine yS (by kernel_rfl : opAt F23.o9 1 = some (some 33, .binOp .gtr 3 (.tmp 32) (.const (.int .i64 0)) 3, none)) rfl rfl (fun w' hS => val_T (val_gtr rfl rfl) hA) ?_
          refine yS (by kernel_rfl : opAt F23.o9 2 = some (some 34, .move (.tmp 33), none)) rfl rfl (fun w' hS => val_move rfl) ?_
          refine yS (by kernel_rfl : opAt F23.o9 3 = some (some 35, .move (.tmp 10), (some (2, true)))) rfl rfl (fun w' hS => val_move rfl) ?_
          refine yS (by kernel_rfl : opAt F23.o9 4 = some (some 36, .move (.tmp 12), (some (2, true)))) rfl rfl (fun w' hS => val_move rfl) ?_
          refine iS (e := 3) (by kernel_rfl : opAt F23.o9 5 = some (some 37, .indexAddr 22 (.tmp 35) (.tmp 36), (some (2, true)))) rfl rfl hm rfl (by kernel_rfl) rfl (by omega) (by omega) ?_
          intro b37 o37 h37
          try simp only [Int.toNat_natCast] at h37
          refine lN (by kernel_rfl : opAt F23.o9 6 = some (some 38, .load 3 (.tmp 37), (some (2, true)))) rfl rfl trivial h37 (by kernel_rfl) rfl rfl ?_
          intro v38 g38
          first | (obtain rfl := rv_nat.1 g38) | (obtain rfl := rv_int.1 g38)
          refine yS (by kernel_rfl : opAt F23.o9 7 = some (some 39, .move (.tmp 2), (some (2, true)))) rfl rfl (fun w' hS => val_move rfl) ?_
          refine yS (by kernel_rfl : opAt F23.o9 8 = some (some 40, .binOp .and 3 (.tmp 38) (.tmp 39) 3, (some (2, true)))) rfl rfl (fun w' hS => val_andE (r := (((p.map (·.2))[i] &&& mk : Nat) : Int)) rfl rfl (bits_and (by omega) (by omega))) ?_
          refine yS (by kernel_rfl : opAt F23.o9 9 = some (some 41, .move (.tmp 2), (some (2, true)))) rfl rfl (fun w' hS => val_move rfl) ?_
          refine yS (by kernel_rfl : opAt F23.o9 10 = some (some 42, .binOp .eql 3 (.tmp 40) (.tmp 41) 3, (some (2, true)))) rfl rfl (fun w' hS => val_eql rfl rfl) ?_
          refine yS (by kernel_rfl : opAt F23.o9 11 = some (some 43, .pick (.tmp 34) (.tmp 42) (.const (.bool false)), none)) rfl rfl (fun w' hS => val_pick_t rfl rfl) ?_
          exact Sch.nil (hcut _ _ _ (Stp.refl _ _ _) rfl (eq_bool (by rw [hgm]; simp only [alls, decide_eq_true (show 0 < mk by omega), Bool.true_and]; exact decide_eq_decide.2 (by omega))) (sub_skip rfl (sub_skip rfl (sub_skip rfl (sub_skip rfl (sub_skip rfl (sub_skip rfl (sub_skip rfl (sub_skip rfl (sub_skip rfl (sub_skip rfl (sub_skip rfl (sub_skip rfl (Sub.refl _))))))))))))))
        · skip
          refine run_plain (id := 9) (ops := F23.o9) [(0, true), (1, true), (2, true), (3, true), (4, true), (5, true), (6, false), (7, true), (8, true), (9, true), (10, true), (11, true)] (by kernel_rfl) (by kernel_rfl) ?_
          refine yS (by kernel_rfl : opAt F23.o9 0 = some (some 32, .move (.tmp 2), none)) rfl rfl (fun w' hS => val_move rfl) ?_
          refine yS (by kernel_rfl : opAt F23.o9 1 = some (some 33, .binOp .gtr 3 (.tmp 32) (.const (.int .i64 0)) 3, none)) rfl rfl (fun w' hS => val_F (val_gtr rfl rfl) hA) ?_
          refine yS (by kernel_rfl : opAt F23.o9 2 = some (some 34, .move (.tmp 33), none)) rfl rfl (fun w' hS => val_move rfl) ?_
          refine pS (by kernel_rfl : opAt F23.o9 3 = some (some 35, .move (.tmp 10), (some (2, true)))) rfl rfl ?_
          refine pS (by kernel_rfl : opAt F23.o9 4 = some (some 36, .move (.tmp 12), (some (2, true)))) rfl rfl ?_
          refine pS (by kernel_rfl : opAt F23.o9 5 = some (some 37, .indexAddr 22 (.tmp 35) (.tmp 36), (some (2, true)))) rfl rfl ?_
          refine pW (by kernel_rfl : opAt F23.o9 6 = some (some 38, .load 3 (.tmp 37), (some (2, true)))) rfl rfl trivial ?_
          refine pS (by kernel_rfl : opAt F23.o9 7 = some (some 39, .move (.tmp 2), (some (2, true)))) rfl rfl ?_
          refine pS (by kernel_rfl : opAt F23.o9 8 = some (some 40, .binOp .and 3 (.tmp 38) (.tmp 39) 3, (some (2, true)))) rfl rfl ?_
          refine pS (by kernel_rfl : opAt F23.o9 9 = some (some 41, .move (.tmp 2), (some (2, true)))) rfl rfl ?_
          refine pS (by kernel_rfl : opAt F23.o9 10 = some (some 42, .binOp .eql 3 (.tmp 40) (.tmp 41) 3, (some (2, true)))) rfl rfl ?_
          refine yS (by kernel_rfl : opAt F23.o9 11 = some (some 43, .pick (.tmp 34) (.tmp 42) (.const (.bool false)), none)) rfl rfl (fun w' hS => val_pick_f rfl rfl) ?_
          exact Sch.nil (hcut _ _ _ (Stp.refl _ _ _) rfl (eq_bool (by simp only [decide_eq_false (show ¬ 0 < mk by omega), Bool.false_and])) (sub_skip rfl (sub_skip rfl (sub_skip rfl (sub_skip rfl (sub_skip rfl (sub_skip rfl (sub_skip rfl (sub_skip rfl (sub_skip rfl (sub_skip rfl (sub_skip rfl (sub_skip rfl (Sub.refl _))))))))))))))
      intro w4 hs
      replace hF := hF.st hs
      replace hT := hT.trans hs (by simp)
      replace hm := hm.st hs (by first | decide | (simp <;> omega))
      refine run_cond (x := F23.c32) (y := F23.c33) (o := .tmp 43) (by kernel_rfl) rfl (fun h43 => ?_) (fun h43 => ?_)
      · skip
        refine run_plain (id := 10) (ops := F23.o10) [(0, true), (1, true), (2, true)] (by kernel_rfl) (by kernel_rfl) ?_
        refine yS (by kernel_rfl : opAt F23.o10 0 = some (some 44, .move (.tmp 11), none)) rfl rfl (fun w' hS => val_move rfl) ?_
        refine yS (by kernel_rfl : opAt F23.o10 1 = some (some 45, .binOp .add 3 (.tmp 44) (.const (.int .i64 1)) 3, none)) rfl rfl (fun w' hS => val_addi rfl rfl (by omega) (by omega)) ?_
        refine yS (by kernel_rfl : opAt F23.o10 2 = some (some 11, .assign (.tmp 45), none)) rfl rfl (fun w' hS => val_assign rfl) ?_
        refine Sch.nil ?_
        refine run_inBlock ?_
        refine run_plain (id := 8) (ops := F23.o8) [(0, true), (1, true), (2, true)] (by kernel_rfl) (by kernel_rfl) ?_
        refine yS (by kernel_rfl : opAt F23.o8 0 = some (some 30, .move (.tmp 12), none)) rfl rfl (fun w' hS => val_move rfl) ?_
        refine yS (by kernel_rfl : opAt F23.o8 1 = some (some 31, .binOp .add 3 (.tmp 30) (.const (.int .i64 1)) 3, none)) rfl rfl (fun w' hS => val_addi rfl rfl (by omega) (by omega)) ?_
        refine yS (by kernel_rfl : opAt F23.o8 2 = some (some 12, .assign (.tmp 31), none)) rfl rfl (fun w' hS => val_assign rfl) ?_
        refine Sch.nil ?_
        refine kp (sub_cons 2 rfl rfl (sub_cons 10 rfl rfl (sub_cons 11 rfl (eq_int (by simp only [hft, h43]; simp)) (sub_cons 12 rfl (eq_int (by simp)) (sub_nil _))))) (next1 (i + 1, C1) _ ⟨(by first | omega | (simp only; omega)), hF, hT, hm⟩ (by first | omega | (simp only; omega)))
      · skip
        refine run_skip (by kernel_rfl) ?_
        refine run_inBlock ?_
        refine run_plain (id := 8) (ops := F23.o8) [(0, true), (1, true), (2, true)] (by kernel_rfl) (by kernel_rfl) ?_
        refine yS (by kernel_rfl : opAt F23.o8 0 = some (some 30, .move (.tmp 12), none)) rfl rfl (fun w' hS => val_move rfl) ?_
        refine yS (by kernel_rfl : opAt F23.o8 1 = some (some 31, .binOp .add 3 (.tmp 30) (.const (.int .i64 1)) 3, none)) rfl rfl (fun w' hS => val_addi rfl rfl (by omega) (by omega)) ?_
        refine yS (by kernel_rfl : opAt F23.o8 2 = some (some 12, .assign (.tmp 31), none)) rfl rfl (fun w' hS => val_assign rfl) ?_
        refine Sch.nil ?_
        refine kp (sub_cons 2 rfl rfl (sub_cons 10 rfl rfl (sub_cons 11 rfl (eq_int (by simp only [hft, h43]; simp)) (sub_cons 12 rfl (eq_int (by simp)) (sub_nil _))))) (next1 (i + 1, C1) _ ⟨(by first | omega | (simp only; omega)), hF, hT, hm⟩ (by first | omega | (simp only; omega)))
    · skip
      obtain rfl : i = p.length := by omega
      rw [List.take_length]
      refine run_exit (id := 0) (by kernel_rfl) rfl ?_
      refine run_seq (x := F23.c36) (y := F23.c37) (by kernel_rfl) ?_
      refine run_plain (id := 11) (ops := F23.o11) [(0, true), (1, true), (2, true)] (by kernel_rfl) (by kernel_rfl) ?_
      refine yS (by kernel_rfl : opAt F23.o11 0 = some (some 46, .move (.tmp 11), none)) rfl rfl (fun w' hS => val_move rfl) ?_
      refine yS (by kernel_rfl : opAt F23.o11 1 = some (some 6, .assign (.tmp 46), none)) rfl rfl (fun w' hS => val_assign rfl) ?_
      refine yS (by kernel_rfl : opAt F23.o11 2 = some (some 7, .assign (.const (.int .i64 0)), none)) rfl rfl (fun w' hS => val_assign rfl) ?_
      refine Sch.nil ?_
      refine run_ret2 (by kernel_rfl) Try.func23 Try.results23 rfl rfl ?_
      refine ⟨?_, hT.out1 (by decide)⟩
      rw [hz]
      by_cases h0 : mk = 0
      · subst h0
        simp
      · rw [if_neg (by omega), Int.toNat_natCast, ← cplS_agree hca hcb hlen mk, ← hp]
        have e : (fun x => decide (0 < mk) && alls mk x) = alls mk := by funext x; simp only [decide_eq_true (show 0 < mk by omega), Bool.true_and]
        rw [e]
namespace F25
noncomputable def c0 : Code := bodyOf Try.f25
noncomputable def c1 : Code := cl c0
noncomputable def o0 : Array Oper := rops c1
noncomputable def c2 : Code := cr c0
noncomputable def c3 : Code := cl c2
noncomputable def c4 : Code := cl c3
noncomputable def o1 : Array Oper := rops c4
noncomputable def c5 : Code := cr c3
noncomputable def c6 : Code := cl c5
noncomputable def o2 : Array Oper := rops c6
noncomputable def c7 : Code := cr c5
noncomputable def c8 : Code := cl c7
noncomputable def c9 : Code := cl c8
noncomputable def o3 : Array Oper := rops c9
noncomputable def c10 : Code := cr c8
noncomputable def c11 : Code := cr c7
noncomputable def c12 : Code := cr c2
noncomputable def c13 : Code := cl c12
noncomputable def o4 : Array Oper := rops c13
noncomputable def c14 : Code := cr c12
noncomputable def c15 : Code := cl c14
noncomputable def o5 : Array Oper := rops c15
noncomputable def c16 : Code := cr c14
noncomputable def c17 : Code := cl c16
noncomputable def c18 : Code := cl c17
noncomputable def o6 : Array Oper := rops c18
noncomputable def c19 : Code := cr c17
noncomputable def c20 : Code := cl c19
noncomputable def c21 : Code := cl c20
noncomputable def c22 : Code := cl c21
noncomputable def c23 : Code := cl c22
noncomputable def o7 : Array Oper := rops c23
noncomputable def c24 : Code := cr c22
noncomputable def c25 : Code := cl c24
noncomputable def c26 : Code := cr c24
noncomputable def c27 : Code := cr c21
noncomputable def c28 : Code := cl c27
noncomputable def c29 : Code := cl c28
noncomputable def c30 : Code := cl c29
noncomputable def o9 : Array Oper := rops c30
noncomputable def c31 : Code := cr c29
noncomputable def c32 : Code := cl c31
noncomputable def o10 : Array Oper := rops c32
noncomputable def c33 : Code := cr c31
noncomputable def c34 : Code := cr c27
noncomputable def o8 : Array Oper := rops c34
noncomputable def c35 : Code := cr c16
noncomputable def c36 : Code := cl c35
noncomputable def o11 : Array Oper := rops c36
noncomputable def c37 : Code := cr c35
end F25
/-- The specification's 'List'. -/
theorem rlist_ok {w₀ : World} {C : Nat → Nat} {a b : List (List Block)} {va vb : Value} (hF : Lim w₀ C) (ha : RV w₀ (Mc C) a va) (hb : RV w₀ (Mc C) b vb) (mask : Int) : Calls Try.prog 25 #[va, vb, .int .i64 mask] w₀ (Ret fun v w' => ∃ u, v = .tuple #[u, .int .i64 (checkM a b mask)] ∧ Stp [] w₀ C w' C ∧ RV w' (Mc C) (if checkM a b mask ≠ 0 then [] else listS a b mask.toNat) u) := by
  have hF0 := hF
  have hT := Stp.refl [2, 3, 4, 5, 6, 7, 8, 9] w₀ (col1 C)
  replace hF := hF.col1
  replace ha : RV w₀ (Mc (col1 C)) a va := by rw [Mc_col1]; exact ha
  replace hb : RV w₀ (Mc (col1 C)) b vb := by rw [Mc_col1]; exact hb
  refine calls_start (c := F25.c0) (N := 47) [va, vb, .int .i64 mask] Try.func25 (by kernel_rfl) (by kernel_rfl) (by kernel_rfl) ?_
  show Run _ _ _ _ [(0, va), (1, vb), (2, .int .i64 mask)] _ _
  refine run_seq (x := F25.c1) (y := F25.c2) (by kernel_rfl) ?_
  refine run_plain (id := 0) (ops := F25.o0) [(0, true), (1, true)] (by kernel_rfl) (by kernel_rfl) ?_
  refine yS (by kernel_rfl : opAt F25.o0 0 = some (some 6, .assign (.const (.slice none 0 0)), none)) rfl rfl (fun w' hS => val_assign rfl) ?_
  refine yS (by kernel_rfl : opAt F25.o0 1 = some (some 7, .assign (.const (.int .i64 0)), none)) rfl rfl (fun w' hS => val_assign rfl) ?_
  refine Sch.nil ?_
  refine run_seq (x := F25.c3) (y := F25.c12) (by kernel_rfl) ?_
  refine run_seq (x := F25.c4) (y := F25.c5) (by kernel_rfl) ?_
  refine run_plain (id := 1) (ops := F25.o1) [(0, true), (1, true), (2, true), (3, false), (4, true)] (by kernel_rfl) (by kernel_rfl) ?_
  refine yS (by kernel_rfl : opAt F25.o1 0 = some (some 13, .move (.tmp 0), none)) rfl rfl (fun w' hS => val_move rfl) ?_
  refine yS (by kernel_rfl : opAt F25.o1 1 = some (some 14, .move (.tmp 1), none)) rfl rfl (fun w' hS => val_move rfl) ?_
  refine yS (by kernel_rfl : opAt F25.o1 2 = some (some 15, .move (.tmp 2), none)) rfl rfl (fun w' hS => val_move rfl) ?_
  refine cS (by kernel_rfl : opAt F25.o1 3 = some (some 16, .call { callee := .value (.func 38), args := #[(.tmp 13), (.tmp 14), (.tmp 15)], argTypes := #[28, 28, 3] }, none)) rfl rfl (ent Try.call38 rfl) (rmasked_ok hF ha hb mask) ?_
  rintro vw1 w1 ⟨rfl, hs⟩
  refine ⟨trivial, ?_⟩
  replace hF := hF.st hs
  replace hT := hT.trans hs (by simp)
  replace ha := ha.st hs (by first | decide | (simp <;> omega))
  replace hb := hb.st hs (by first | decide | (simp <;> omega))
  refine yS (by kernel_rfl : opAt F25.o1 4 = some (some 8, .assign (.tmp 16), none)) rfl rfl (fun w' hS => val_assign rfl) ?_
  refine Sch.nil ?_
  refine run_seq (x := F25.c6) (y := F25.c7) (by kernel_rfl) ?_
  refine run_plain (id := 2) (ops := F25.o2) [(0, true), (1, true)] (by kernel_rfl) (by kernel_rfl) ?_
  refine yS (by kernel_rfl : opAt F25.o2 0 = some (some 17, .move (.tmp 8), none)) rfl rfl (fun w' hS => val_move rfl) ?_
  refine yS (by kernel_rfl : opAt F25.o2 1 = some (some 18, .binOp .neq 31 (.tmp 17) (.const (.int .i64 0)) 31, none)) rfl rfl (fun w' hS => val_neq rfl rfl) ?_
  refine Sch.nil ?_
  refine run_if (x := F25.c8) (y := F25.c11) (o := .tmp 18) (by kernel_rfl) rfl (fun h18 => ?_) (fun h18 => ?_)
  · skip
    refine run_seq (x := F25.c9) (y := F25.c10) (by kernel_rfl) ?_
    refine run_plain (id := 3) (ops := F25.o3) [(0, true), (1, true), (2, true)] (by kernel_rfl) (by kernel_rfl) ?_
    refine yS (by kernel_rfl : opAt F25.o3 0 = some (some 19, .move (.tmp 8), none)) rfl rfl (fun w' hS => val_move rfl) ?_
    refine yS (by kernel_rfl : opAt F25.o3 1 = some (some 6, .assign (.const (.slice none 0 0)), none)) rfl rfl (fun w' hS => val_assign rfl) ?_
    refine yS (by kernel_rfl : opAt F25.o3 2 = some (some 7, .assign (.tmp 19), none)) rfl rfl (fun w' hS => val_assign rfl) ?_
    refine Sch.nil ?_
    refine run_ret2 (by kernel_rfl) Try.func25 Try.results25 rfl rfl ?_
    exact ⟨_, rfl, hT.out1 (by decide), by rw [if_pos h18]; exact rv_nil⟩
  · skip
    have hz : checkM a b mask = 0 := by simpa using h18
    obtain ⟨hca, hcb, hlen, h8, hBa, hBb⟩ := cplS_agree' hz
    have hcl := cplS_len hz
    obtain ⟨_, _, mk, rfl, hmk⟩ := checkM_zero hz
    refine run_skip (by kernel_rfl) ?_
    refine run_seq (x := F25.c13) (y := F25.c14) (by kernel_rfl) ?_
    refine run_plain (id := 4) (ops := F25.o4) [(0, true), (1, true), (2, false), (3, true), (4, true), (5, true), (6, true), (7, true)] (by kernel_rfl) (by kernel_rfl) ?_
    refine yS (by kernel_rfl : opAt F25.o4 0 = some (some 21, .move (.tmp 0), none)) rfl rfl (fun w' hS => val_move rfl) ?_
    refine yS (by kernel_rfl : opAt F25.o4 1 = some (some 22, .move (.tmp 1), none)) rfl rfl (fun w' hS => val_move rfl) ?_
    refine cS (by kernel_rfl : opAt F25.o4 2 = some (some 23, .call { callee := .value (.func 39), args := #[(.tmp 21), (.tmp 22)], argTypes := #[28, 28] }, none)) rfl rfl (ent Try.call39 rfl) (couples_ok hF ha hb hBa hBb hlen h8) ?_
    rintro vw2 w2 ⟨vu, vm, rfl, hs, hu, hm⟩
    refine ⟨trivial, ?_⟩
    replace hF := hF.st hs
    replace hT := hT.trans hs (by simp)
    replace ha := ha.st hs (by first | decide | (simp <;> omega))
    replace hb := hb.st hs (by first | decide | (simp <;> omega))
    obtain ⟨p, hp⟩ : ∃ p, p = cplS a b := ⟨_, rfl⟩
    have hps : ∀ q (h : q < p.length), (p[q]).2 < 256 := fun q h => by subst hp; exact cplS_small h8 (List.getElem_mem h)
    rw [← hp] at hu hm hcl
    refine yS (by kernel_rfl : opAt F25.o4 3 = some (some 20, .move (.tmp 23), none)) rfl rfl (fun w' hS => val_move rfl) ?_
    refine yS (by kernel_rfl : opAt F25.o4 4 = some (some 24, .extract (.tmp 20) 0, none)) rfl rfl (fun w' hS => val_extract rfl rfl) ?_
    refine yS (by kernel_rfl : opAt F25.o4 5 = some (some 25, .extract (.tmp 20) 1, none)) rfl rfl (fun w' hS => val_extract rfl rfl) ?_
    refine yS (by kernel_rfl : opAt F25.o4 6 = some (some 9, .assign (.tmp 24), none)) rfl rfl (fun w' hS => val_assign rfl) ?_
    refine yS (by kernel_rfl : opAt F25.o4 7 = some (some 10, .assign (.tmp 25), none)) rfl rfl (fun w' hS => val_assign rfl) ?_
    refine Sch.nil ?_
    refine run_seq (x := F25.c15) (y := F25.c16) (by kernel_rfl) ?_
    refine run_plain (id := 5) (ops := F25.o5) [(0, true)] (by kernel_rfl) (by kernel_rfl) ?_
    refine yS (by kernel_rfl : opAt F25.o5 0 = some (some 11, .assign (.const (.slice none 0 0)), none)) rfl rfl (fun w' hS => val_assign rfl) ?_
    refine Sch.nil ?_
    refine run_seq (x := F25.c17) (y := F25.c35) (by kernel_rfl) ?_
    refine run_seq (x := F25.c18) (y := F25.c19) (by kernel_rfl) ?_
    refine run_plain (id := 6) (ops := F25.o6) [(0, true)] (by kernel_rfl) (by kernel_rfl) ?_
    refine yS (by kernel_rfl : opAt F25.o6 0 = some (some 12, .assign (.const (.int .i64 0)), none)) rfl rfl (fun w' hS => val_assign rfl) ?_
    refine Sch.nil ?_
    refine run_block (x := F25.c20) (id := 0) (by kernel_rfl) ?_
    
    refine run_loop (ι := Nat × Value × (Nat → Nat)) (I := fun x w => x.1 ≤ p.length ∧ Lim w x.2.2 ∧ Stp [2, 3, 4, 5, 6, 7, 8, 9] w₀ (col1 C) w x.2.2 ∧ RV w (Mc x.2.2) (p.map (·.1)) vu ∧ RV w (Mc x.2.2) (p.map (·.2)) vm ∧ OwnL w x.2.2 3 37 x.2.1 (((p.take x.1).filter (hits mk)).map (·.1))) (e := fun x => [(2, .int .i64 (mk : Int)), (9, vu), (10, vm), (11, x.2.1), (12, .int .i64 x.1)]) (m := fun x => p.length - x.1) (x₀ := (0, .slice none 0 0, col1 C)) (body := F25.c21) (by kernel_rfl) (sub_cons 2 rfl rfl (sub_cons 9 rfl rfl (sub_cons 10 rfl rfl (sub_cons 11 rfl rfl (sub_cons 12 rfl rfl (sub_nil _)))))) ?_ ?_
    · exact ⟨Nat.zero_le _, hF, hT, hu, hm, OwnL.nil⟩
    intro ⟨i, vo, C1⟩ w3 hI next
    obtain ⟨hi, hF, hT, hu, hm, ho⟩ := hI
    try simp only at hi hF hT hu hm ho
    have next1 := next
    clear next
    show Run _ _ _ _ [(2, .int .i64 (mk : Int)), (9, vu), (10, vm), (11, vo), (12, .int .i64 i)] _ _
    have hml : (p.map (·.2)).length = p.length := List.length_map ..
    have hul : (p.map (·.1)).length = p.length := List.length_map ..
    have hfl := filter_takeL (hits mk) p i
    refine run_seq (x := F25.c22) (y := F25.c27) (by kernel_rfl) ?_
    refine run_seq (x := F25.c23) (y := F25.c24) (by kernel_rfl) ?_
    refine run_plain (id := 7) (ops := F25.o7) [(0, true), (1, true), (2, true), (3, true)] (by kernel_rfl) (by kernel_rfl) ?_
    refine yS (by kernel_rfl : opAt F25.o7 0 = some (some 26, .move (.tmp 12), none)) rfl rfl (fun w' hS => val_move rfl) ?_
    refine yS (by kernel_rfl : opAt F25.o7 1 = some (some 27, .move (.tmp 9), none)) rfl rfl (fun w' hS => val_move rfl) ?_
    refine yS (by kernel_rfl : opAt F25.o7 2 = some (some 28, .call { callee := .builtin .len, args := #[(.tmp 27)], argTypes := #[30] }, none)) rfl rfl (fun w' hS => hu.lenV rfl Try.underlying30 w' ) ?_
    refine yS (by kernel_rfl : opAt F25.o7 3 = some (some 29, .binOp .lss 3 (.tmp 26) (.tmp 28) 3, none)) rfl rfl (fun w' hS => val_lss rfl rfl) ?_
    refine Sch.nil ?_
    refine run_if (x := F25.c25) (y := F25.c26) (o := .tmp 29) (by kernel_rfl) rfl (fun h29 => ?_) (fun h29 => ?_)
    · skip
      have hil : i < p.length := by omega
      have hgm : (p.map (·.2))[i] = p[i].2 := List.getElem_map ..
      have hgu : (p.map (·.1))[i] = p[i].1 := List.getElem_map ..
      have hp8 := hps i hil
      have hft := filter_takeS (hits mk) hil
      refine run_skip (by kernel_rfl) ?_
      refine run_seq (x := F25.c28) (y := F25.c34) (by kernel_rfl) ?_
      refine run_block (x := F25.c29) (id := 1) (by kernel_rfl) ?_
      refine run_seq (x := F25.c30) (y := F25.c31) (by kernel_rfl) ?_
      refine run_plain (id := 9) (ops := F25.o9) [(0, true), (1, true), (2, true), (3, false), (4, true), (5, true), (6, true)] (by kernel_rfl) (by kernel_rfl) ?_
      refine yS (by kernel_rfl : opAt F25.o9 0 = some (some 32, .move (.tmp 10), none)) rfl rfl (fun w' hS => val_move rfl) ?_
      refine yS (by kernel_rfl : opAt F25.o9 1 = some (some 33, .move (.tmp 12), none)) rfl rfl (fun w' hS => val_move rfl) ?_
      refine iS (e := 3) (by kernel_rfl : opAt F25.o9 2 = some (some 34, .indexAddr 22 (.tmp 32) (.tmp 33), none)) rfl rfl hm rfl (by kernel_rfl) rfl (by omega) (by omega) ?_
      intro b34 o34 h34
      try simp only [Int.toNat_natCast] at h34
      refine lN (by kernel_rfl : opAt F25.o9 3 = some (some 35, .load 3 (.tmp 34), none)) rfl rfl trivial h34 (by kernel_rfl) rfl rfl ?_
      intro v35 g35
      first | (obtain rfl := rv_nat.1 g35) | (obtain rfl := rv_int.1 g35)
      refine yS (by kernel_rfl : opAt F25.o9 4 = some (some 36, .move (.tmp 2), none)) rfl rfl (fun w' hS => val_move rfl) ?_
      refine yS (by kernel_rfl : opAt F25.o9 5 = some (some 37, .binOp .and 3 (.tmp 35) (.tmp 36) 3, none)) rfl rfl (fun w' hS => val_andE (r := (((p.map (·.2))[i] &&& mk : Nat) : Int)) rfl rfl (bits_and (by omega) (by omega))) ?_
      refine yS (by kernel_rfl : opAt F25.o9 6 = some (some 38, .binOp .gtr 3 (.tmp 37) (.const (.int .i64 0)) 3, none)) rfl rfl (fun w' hS => val_gtr rfl rfl) ?_
      refine Sch.nil ?_
      refine run_if (x := F25.c32) (y := F25.c33) (o := .tmp 38) (by kernel_rfl) rfl (fun h38 => ?_) (fun h38 => ?_)
      · skip
        have hh : hits mk p[i] = true := by rw [hgm] at h38; simp only [hits, decide_eq_true_eq]; omega
        refine run_plain (id := 10) (ops := F25.o10) [(0, true), (1, true), (2, true), (3, true), (4, false), (5, false), (6, false), (7, true)] (by kernel_rfl) (by kernel_rfl) ?_
        refine yS (by kernel_rfl : opAt F25.o10 0 = some (some 39, .move (.tmp 11), none)) rfl rfl (fun w' hS => val_move rfl) ?_
        refine yS (by kernel_rfl : opAt F25.o10 1 = some (some 40, .move (.tmp 9), none)) rfl rfl (fun w' hS => val_move rfl) ?_
        refine yS (by kernel_rfl : opAt F25.o10 2 = some (some 41, .move (.tmp 12), none)) rfl rfl (fun w' hS => val_move rfl) ?_
        refine iS (e := 37) (by kernel_rfl : opAt F25.o10 3 = some (some 42, .indexAddr 30 (.tmp 40) (.tmp 41), none)) rfl rfl hu rfl (by kernel_rfl) rfl (by omega) (by omega) ?_
        intro b42 o42 h42
        try simp only [Int.toNat_natCast] at h42
        refine lNA (by kernel_rfl : opAt F25.o10 4 = some (some 43, .load 37 (.tmp 42), none)) rfl rfl trivial h42 (by kernel_rfl) (by kernel_rfl) rfl rfl ?_
        intro v43 g43
        rw [hgu] at g43
        obtain rfl := rv_couple.1 g43
        refine aS (by kernel_rfl : opAt F25.o10 5 = some (some 44, .buildSlice 30 1 #[(0, (.tmp 43))], none)) rfl rfl (a_buildSlice (ys := ([p[i].1] : List Couple)) (e := 37) (bytes := 16) hF (by kernel_rfl) rfl (by decide) (by decide) ⟨rfl, ⟨_, rfl, rv_couple.2 rfl⟩, trivial⟩) ?_
        rintro v44 w4 ⟨hs, hn1, hF⟩
        refine ⟨trivial, ?_⟩
        replace hT := hT.trans hs (by simp)
        replace hu := hu.st hs (by first | decide | (simp <;> omega))
        replace hm := hm.st hs (by first | decide | (simp <;> omega))
        replace ho := ho.st hs (by first | decide | (simp <;> omega)) (by first | decide | (simp <;> omega))
        replace h34 := h34.st hs (by first | decide | (simp <;> omega))
        replace h42 := h42.st hs (by first | decide | (simp <;> omega))
        refine aS (by kernel_rfl : opAt F25.o10 6 = some (some 45, .call { callee := .builtin .append, args := #[(.tmp 39), (.tmp 44)], argTypes := #[30, 30] }, none)) rfl rfl (a_append (e := 37) (bytes := 16) hF (by decide) rfl rfl (by kernel_rfl) (by decide) ho hn1 (by simp only [List.length_map, List.length_cons, List.length_nil]; omega) (by simp only [List.length_map, List.length_cons, List.length_nil]; omega)) ?_
        rintro v45 w5 ⟨Cw5, hs, ho, hF⟩
        refine ⟨trivial, ?_⟩
        replace hT := hT.trans hs (by simp)
        replace hu := hu.st hs (by first | decide | (simp <;> omega))
        replace hm := hm.st hs (by first | decide | (simp <;> omega))
        replace h34 := h34.st hs (by first | decide | (simp <;> omega))
        replace h42 := h42.st hs (by first | decide | (simp <;> omega))
        replace hn1 := hn1.st hs (by first | decide | (simp <;> omega))
        refine yS (by kernel_rfl : opAt F25.o10 7 = some (some 11, .assign (.tmp 45), none)) rfl rfl (fun w' hS => val_assign rfl) ?_
        refine Sch.nil ?_
        refine run_inBlock ?_
        refine run_plain (id := 8) (ops := F25.o8) [(0, true), (1, true), (2, true)] (by kernel_rfl) (by kernel_rfl) ?_
        refine yS (by kernel_rfl : opAt F25.o8 0 = some (some 30, .move (.tmp 12), none)) rfl rfl (fun w' hS => val_move rfl) ?_
        refine yS (by kernel_rfl : opAt F25.o8 1 = some (some 31, .binOp .add 3 (.tmp 30) (.const (.int .i64 1)) 3, none)) rfl rfl (fun w' hS => val_addi rfl rfl (by omega) (by omega)) ?_
        refine yS (by kernel_rfl : opAt F25.o8 2 = some (some 12, .assign (.tmp 31), none)) rfl rfl (fun w' hS => val_assign rfl) ?_
        refine Sch.nil ?_
        refine kp (sub_cons 2 rfl rfl (sub_cons 9 rfl rfl (sub_cons 10 rfl rfl (sub_cons 11 rfl rfl (sub_cons 12 rfl (eq_int (by simp)) (sub_nil _)))))) (next1 (i + 1, v45, Cw5) _ ⟨(by first | omega | (simp only; omega)), hF, hT, hu, hm, (by rw [hft, if_pos hh, List.map_append]; exact ho)⟩ (by first | omega | (simp only; omega)))
      · skip
        have hh : hits mk p[i] = false := by rw [hgm] at h38; simp only [hits, decide_eq_false_iff_not]; omega
        refine run_skip (by kernel_rfl) ?_
        refine run_inBlock ?_
        refine run_plain (id := 8) (ops := F25.o8) [(0, true), (1, true), (2, true)] (by kernel_rfl) (by kernel_rfl) ?_
        refine yS (by kernel_rfl : opAt F25.o8 0 = some (some 30, .move (.tmp 12), none)) rfl rfl (fun w' hS => val_move rfl) ?_
        refine yS (by kernel_rfl : opAt F25.o8 1 = some (some 31, .binOp .add 3 (.tmp 30) (.const (.int .i64 1)) 3, none)) rfl rfl (fun w' hS => val_addi rfl rfl (by omega) (by omega)) ?_
        refine yS (by kernel_rfl : opAt F25.o8 2 = some (some 12, .assign (.tmp 31), none)) rfl rfl (fun w' hS => val_assign rfl) ?_
        refine Sch.nil ?_
        refine kp (sub_cons 2 rfl rfl (sub_cons 9 rfl rfl (sub_cons 10 rfl rfl (sub_cons 11 rfl rfl (sub_cons 12 rfl (eq_int (by simp)) (sub_nil _)))))) (next1 (i + 1, vo, C1) _ ⟨(by first | omega | (simp only; omega)), hF, hT, hu, hm, (by rw [hft, if_neg (by rw [hh]; decide), List.append_nil]; exact ho)⟩ (by first | omega | (simp only; omega)))
    · skip
      obtain rfl : i = p.length := by omega
      rw [List.take_length] at ho
      refine run_exit (id := 0) (by kernel_rfl) rfl ?_
      refine run_seq (x := F25.c36) (y := F25.c37) (by kernel_rfl) ?_
      refine run_plain (id := 11) (ops := F25.o11) [(0, true), (1, true), (2, true)] (by kernel_rfl) (by kernel_rfl) ?_
      refine yS (by kernel_rfl : opAt F25.o11 0 = some (some 46, .move (.tmp 11), none)) rfl rfl (fun w' hS => val_move rfl) ?_
      refine yS (by kernel_rfl : opAt F25.o11 1 = some (some 6, .assign (.tmp 46), none)) rfl rfl (fun w' hS => val_assign rfl) ?_
      refine yS (by kernel_rfl : opAt F25.o11 2 = some (some 7, .assign (.const (.int .i64 0)), none)) rfl rfl (fun w' hS => val_assign rfl) ?_
      refine Sch.nil ?_
      refine run_ret2 (by kernel_rfl) Try.func25 Try.results25 rfl rfl ?_
      have hfl2 := List.length_filter_le (hits mk) p
      rw [hz]
      refine ⟨_, rfl, hT.out1 (by decide), ?_⟩
      rw [if_neg (by decide), Int.toNat_natCast, ← cplS_list hca hcb hlen mk, ← hp]
      exact ho.out hT hF0 (Mc_col1 C) (fun b _ => col1_lt C (by decide) b) (by rw [List.length_map]; omega)
namespace F24
noncomputable def c0 : Code := bodyOf Try.f24
noncomputable def c1 : Code := cl c0
noncomputable def o0 : Array Oper := rops c1
noncomputable def c2 : Code := cr c0
noncomputable def c3 : Code := cl c2
noncomputable def o1 : Array Oper := rops c3
noncomputable def c4 : Code := cr c2
noncomputable def c5 : Code := cl c4
noncomputable def o2 : Array Oper := rops c5
noncomputable def c6 : Code := cr c4
end F24
/-- The specification's 'Union'. -/
theorem runion_ok {w₀ : World} {C : Nat → Nat} {a b : List (List Block)} {va vb : Value} (hF : Lim w₀ C) (ha : RV w₀ (Mc C) a va) (hb : RV w₀ (Mc C) b vb) (mask : Int) : Calls Try.prog 24 #[va, vb, .int .i64 mask] w₀ (Ret fun v w' => v = .tuple #[.int .i64 (if checkM a b mask ≠ 0 then [] else listS a b mask.toNat).length, .int .i64 (checkM a b mask)] ∧ Stp [] w₀ C w' C) := by
  have hF0 := hF
  have hT := Stp.refl [2, 3, 4, 5, 6, 7, 8, 9] w₀ (col1 C)
  replace hF := hF.col1
  replace ha : RV w₀ (Mc (col1 C)) a va := by rw [Mc_col1]; exact ha
  replace hb : RV w₀ (Mc (col1 C)) b vb := by rw [Mc_col1]; exact hb
  refine calls_start (c := F24.c0) (N := 20) [va, vb, .int .i64 mask] Try.func24 (by kernel_rfl) (by kernel_rfl) (by kernel_rfl) ?_
  show Run _ _ _ _ [(0, va), (1, vb), (2, .int .i64 mask)] _ _
  refine run_seq (x := F24.c1) (y := F24.c2) (by kernel_rfl) ?_
  refine run_plain (id := 0) (ops := F24.o0) [(0, true), (1, true)] (by kernel_rfl) (by kernel_rfl) ?_
  refine yS (by kernel_rfl : opAt F24.o0 0 = some (some 6, .assign (.const (.int .i64 0)), none)) rfl rfl (fun w' hS => val_assign rfl) ?_
  refine yS (by kernel_rfl : opAt F24.o0 1 = some (some 7, .assign (.const (.int .i64 0)), none)) rfl rfl (fun w' hS => val_assign rfl) ?_
  refine Sch.nil ?_
  refine run_seq (x := F24.c3) (y := F24.c4) (by kernel_rfl) ?_
  refine run_plain (id := 1) (ops := F24.o1) [(0, true), (1, true), (2, true), (3, false), (4, true), (5, true), (6, true), (7, true), (8, true)] (by kernel_rfl) (by kernel_rfl) ?_
  refine yS (by kernel_rfl : opAt F24.o1 0 = some (some 11, .move (.tmp 0), none)) rfl rfl (fun w' hS => val_move rfl) ?_
  refine yS (by kernel_rfl : opAt F24.o1 1 = some (some 12, .move (.tmp 1), none)) rfl rfl (fun w' hS => val_move rfl) ?_
  refine yS (by kernel_rfl : opAt F24.o1 2 = some (some 13, .move (.tmp 2), none)) rfl rfl (fun w' hS => val_move rfl) ?_
  refine cS (by kernel_rfl : opAt F24.o1 3 = some (some 14, .call { callee := .value (.func 25), args := #[(.tmp 11), (.tmp 12), (.tmp 13)], argTypes := #[28, 28, 3] }, none)) rfl rfl (ent Try.call25 rfl) (rlist_ok hF ha hb mask) ?_
  rintro vw1 w1 ⟨ul, rfl, hs, hl⟩
  refine ⟨trivial, ?_⟩
  replace hF := hF.st hs
  replace hT := hT.trans hs (by simp)
  replace ha := ha.st hs (by first | decide | (simp <;> omega))
  replace hb := hb.st hs (by first | decide | (simp <;> omega))
  refine yS (by kernel_rfl : opAt F24.o1 4 = some (some 10, .move (.tmp 14), none)) rfl rfl (fun w' hS => val_move rfl) ?_
  refine yS (by kernel_rfl : opAt F24.o1 5 = some (some 15, .extract (.tmp 10) 0, none)) rfl rfl (fun w' hS => val_extract rfl rfl) ?_
  refine yS (by kernel_rfl : opAt F24.o1 6 = some (some 16, .extract (.tmp 10) 1, none)) rfl rfl (fun w' hS => val_extract rfl rfl) ?_
  refine yS (by kernel_rfl : opAt F24.o1 7 = some (some 8, .assign (.tmp 15), none)) rfl rfl (fun w' hS => val_assign rfl) ?_
  refine yS (by kernel_rfl : opAt F24.o1 8 = some (some 9, .assign (.tmp 16), none)) rfl rfl (fun w' hS => val_assign rfl) ?_
  refine Sch.nil ?_
  refine run_seq (x := F24.c5) (y := F24.c6) (by kernel_rfl) ?_
  refine run_plain (id := 2) (ops := F24.o2) [(0, true), (1, true), (2, true), (3, true), (4, true)] (by kernel_rfl) (by kernel_rfl) ?_
  refine yS (by kernel_rfl : opAt F24.o2 0 = some (some 17, .move (.tmp 8), none)) rfl rfl (fun w' hS => val_move rfl) ?_
  refine yS (by kernel_rfl : opAt F24.o2 1 = some (some 18, .call { callee := .builtin .len, args := #[(.tmp 17)], argTypes := #[30] }, none)) rfl rfl (fun w' hS => hl.lenV rfl Try.underlying30 w' ) ?_
  refine yS (by kernel_rfl : opAt F24.o2 2 = some (some 19, .move (.tmp 9), none)) rfl rfl (fun w' hS => val_move rfl) ?_
  refine yS (by kernel_rfl : opAt F24.o2 3 = some (some 6, .assign (.tmp 18), none)) rfl rfl (fun w' hS => val_assign rfl) ?_
  refine yS (by kernel_rfl : opAt F24.o2 4 = some (some 7, .assign (.tmp 19), none)) rfl rfl (fun w' hS => val_assign rfl) ?_
  refine Sch.nil ?_
  refine run_ret2 (by kernel_rfl) Try.func24 Try.results24 rfl rfl ?_
  exact ⟨rfl, hT.out1 (by decide)⟩
namespace F26
noncomputable def c0 : Code := bodyOf Try.f26
noncomputable def c1 : Code := cl c0
noncomputable def o0 : Array Oper := rops c1
noncomputable def c2 : Code := cr c0
noncomputable def c3 : Code := cl c2
noncomputable def c4 : Code := cl c3
noncomputable def o1 : Array Oper := rops c4
noncomputable def c5 : Code := cr c3
noncomputable def c6 : Code := cl c5
noncomputable def c7 : Code := cl c6
noncomputable def o2 : Array Oper := rops c7
noncomputable def c8 : Code := cr c6
noncomputable def c9 : Code := cr c5
noncomputable def c10 : Code := cr c2
noncomputable def c11 : Code := cl c10
noncomputable def c12 : Code := cl c11
noncomputable def o3 : Array Oper := rops c12
noncomputable def c13 : Code := cr c11
noncomputable def c14 : Code := cl c13
noncomputable def c15 : Code := cl c14
noncomputable def c16 : Code := cl c15
noncomputable def c17 : Code := cl c16
noncomputable def o4 : Array Oper := rops c17
noncomputable def c18 : Code := cr c16
noncomputable def c19 : Code := cl c18
noncomputable def c20 : Code := cr c18
noncomputable def c21 : Code := cr c15
noncomputable def c22 : Code := cl c21
noncomputable def c23 : Code := cl c22
noncomputable def c24 : Code := cl c23
noncomputable def o6 : Array Oper := rops c24
noncomputable def c25 : Code := cr c23
noncomputable def c26 : Code := cl c25
noncomputable def c27 : Code := cl c26
noncomputable def o7 : Array Oper := rops c27
noncomputable def c28 : Code := cr c26
noncomputable def c29 : Code := cr c25
noncomputable def c30 : Code := cr c21
noncomputable def o5 : Array Oper := rops c30
noncomputable def c31 : Code := cr c10
noncomputable def c32 : Code := cl c31
noncomputable def o8 : Array Oper := rops c32
noncomputable def c33 : Code := cr c31
end F26
/-- Two lists are compared. -/
theorem rsame_ok {w₀ : World} {C : Nat → Nat} {a b : List Couple} {va vb : Value} (hF : Lim w₀ C) (ha : RV w₀ (Mc C) a va) (hb : RV w₀ (Mc C) b vb) : Calls Try.prog 26 #[va, vb] w₀ (Ret fun v w' => v = .bool (decide (a = b)) ∧ Stp [] w₀ C w' C) := by
  have hF0 := hF
  have hT := Stp.refl [2, 3, 4, 5, 6, 7, 8, 9] w₀ (col1 C)
  replace hF := hF.col1
  replace ha : RV w₀ (Mc (col1 C)) a va := by rw [Mc_col1]; exact ha
  replace hb : RV w₀ (Mc (col1 C)) b vb := by rw [Mc_col1]; exact hb
  refine calls_start (c := F26.c0) (N := 26) [va, vb] Try.func26 (by kernel_rfl) (by kernel_rfl) (by kernel_rfl) ?_
  show Run _ _ _ _ [(0, va), (1, vb)] _ _
  refine run_seq (x := F26.c1) (y := F26.c2) (by kernel_rfl) ?_
  refine run_plain (id := 0) (ops := F26.o0) [(0, true)] (by kernel_rfl) (by kernel_rfl) ?_
  refine yS (by kernel_rfl : opAt F26.o0 0 = some (some 4, .assign (.const (.bool false)), none)) rfl rfl (fun w' hS => val_assign rfl) ?_
  refine Sch.nil ?_
  refine run_seq (x := F26.c3) (y := F26.c10) (by kernel_rfl) ?_
  refine run_seq (x := F26.c4) (y := F26.c5) (by kernel_rfl) ?_
  refine run_plain (id := 1) (ops := F26.o1) [(0, true), (1, true), (2, true), (3, true), (4, true)] (by kernel_rfl) (by kernel_rfl) ?_
  refine yS (by kernel_rfl : opAt F26.o1 0 = some (some 6, .move (.tmp 0), none)) rfl rfl (fun w' hS => val_move rfl) ?_
  refine yS (by kernel_rfl : opAt F26.o1 1 = some (some 7, .call { callee := .builtin .len, args := #[(.tmp 6)], argTypes := #[30] }, none)) rfl rfl (fun w' hS => ha.lenV rfl Try.underlying30 w' ) ?_
  refine yS (by kernel_rfl : opAt F26.o1 2 = some (some 8, .move (.tmp 1), none)) rfl rfl (fun w' hS => val_move rfl) ?_
  refine yS (by kernel_rfl : opAt F26.o1 3 = some (some 9, .call { callee := .builtin .len, args := #[(.tmp 8)], argTypes := #[30] }, none)) rfl rfl (fun w' hS => hb.lenV rfl Try.underlying30 w' ) ?_
  refine yS (by kernel_rfl : opAt F26.o1 4 = some (some 10, .binOp .neq 3 (.tmp 7) (.tmp 9) 3, none)) rfl rfl (fun w' hS => val_neq rfl rfl) ?_
  refine Sch.nil ?_
  refine run_if (x := F26.c6) (y := F26.c9) (o := .tmp 10) (by kernel_rfl) rfl (fun h10 => ?_) (fun h10 => ?_)
  · skip
    have hln : ¬ a.length = b.length := by omega
    refine run_seq (x := F26.c7) (y := F26.c8) (by kernel_rfl) ?_
    refine run_plain (id := 2) (ops := F26.o2) [(0, true)] (by kernel_rfl) (by kernel_rfl) ?_
    refine yS (by kernel_rfl : opAt F26.o2 0 = some (some 4, .assign (.const (.bool false)), none)) rfl rfl (fun w' hS => val_assign rfl) ?_
    refine Sch.nil ?_
    refine run_ret1 (by kernel_rfl) Try.func26 Try.results26 rfl ?_
    exact ⟨by rw [decide_eq_false (fun e => hln (by rw [e]))], hT.out1 (by decide)⟩
  · skip
    have hln : a.length = b.length := by omega
    refine run_skip (by kernel_rfl) ?_
    refine run_seq (x := F26.c11) (y := F26.c31) (by kernel_rfl) ?_
    refine run_seq (x := F26.c12) (y := F26.c13) (by kernel_rfl) ?_
    refine run_plain (id := 3) (ops := F26.o3) [(0, true)] (by kernel_rfl) (by kernel_rfl) ?_
    refine yS (by kernel_rfl : opAt F26.o3 0 = some (some 5, .assign (.const (.int .i64 0)), none)) rfl rfl (fun w' hS => val_assign rfl) ?_
    refine Sch.nil ?_
    refine run_block (x := F26.c14) (id := 0) (by kernel_rfl) ?_
    
    refine run_loop (ι := Nat × (Nat → Nat)) (I := fun x w => x.1 ≤ a.length ∧ (∀ q (h1 : q < a.length) (h2 : q < b.length), q < x.1 → a[q] = b[q]) ∧ Lim w x.2 ∧ Stp [2, 3, 4, 5, 6, 7, 8, 9] w₀ (col1 C) w x.2 ∧ RV w (Mc x.2) a va ∧ RV w (Mc x.2) b vb) (e := fun x => [(0, va), (1, vb), (5, .int .i64 x.1)]) (m := fun x => a.length - x.1) (x₀ := (0, col1 C)) (body := F26.c15) (by kernel_rfl) (sub_cons 0 rfl rfl (sub_cons 1 rfl rfl (sub_cons 5 rfl rfl (sub_nil _)))) ?_ ?_
    · exact ⟨Nat.zero_le _, (fun q _ _ hq => by first | omega | (simp only at hq; omega)), hF, hT, ha, hb⟩
    intro ⟨i, C1⟩ w1 hI next
    obtain ⟨hi, h0, hF, hT, ha, hb⟩ := hI
    try simp only at hi h0 hF hT ha hb
    have next1 := next
    clear next
    show Run _ _ _ _ [(0, va), (1, vb), (5, .int .i64 i)] _ _
    have hle := ha.le
    refine run_seq (x := F26.c16) (y := F26.c21) (by kernel_rfl) ?_
    refine run_seq (x := F26.c17) (y := F26.c18) (by kernel_rfl) ?_
    refine run_plain (id := 4) (ops := F26.o4) [(0, true), (1, true), (2, true), (3, true)] (by kernel_rfl) (by kernel_rfl) ?_
    refine yS (by kernel_rfl : opAt F26.o4 0 = some (some 11, .move (.tmp 5), none)) rfl rfl (fun w' hS => val_move rfl) ?_
    refine yS (by kernel_rfl : opAt F26.o4 1 = some (some 12, .move (.tmp 0), none)) rfl rfl (fun w' hS => val_move rfl) ?_
    refine yS (by kernel_rfl : opAt F26.o4 2 = some (some 13, .call { callee := .builtin .len, args := #[(.tmp 12)], argTypes := #[30] }, none)) rfl rfl (fun w' hS => ha.lenV rfl Try.underlying30 w' ) ?_
    refine yS (by kernel_rfl : opAt F26.o4 3 = some (some 14, .binOp .lss 3 (.tmp 11) (.tmp 13) 3, none)) rfl rfl (fun w' hS => val_lss rfl rfl) ?_
    refine Sch.nil ?_
    refine run_if (x := F26.c19) (y := F26.c20) (o := .tmp 14) (by kernel_rfl) rfl (fun h14 => ?_) (fun h14 => ?_)
    · skip
      have hil : i < a.length := by omega
      refine run_skip (by kernel_rfl) ?_
      refine run_seq (x := F26.c22) (y := F26.c30) (by kernel_rfl) ?_
      refine run_block (x := F26.c23) (id := 1) (by kernel_rfl) ?_
      refine run_seq (x := F26.c24) (y := F26.c25) (by kernel_rfl) ?_
      refine run_draw (id := 6) (ops := F26.o6) [] (C1) [(0, true), (1, true), (2, true), (3, true), (4, true), (5, true), (6, true), (7, true), (8, true)] Try_mixed (by kernel_rfl) (by kernel_rfl) (by kernel_rfl) ?_
      intro w2 hs
      replace hF := hF.st hs
      replace hT := hT.trans hs (by simp)
      replace ha := ha.st hs (by first | decide | (simp <;> omega))
      replace hb := hb.st hs (by first | decide | (simp <;> omega))
      refine yS (by kernel_rfl : opAt F26.o6 0 = some (some 17, .move (.tmp 0), none)) rfl rfl (fun w' hS => val_move rfl) ?_
      refine yS (by kernel_rfl : opAt F26.o6 1 = some (some 18, .move (.tmp 5), none)) rfl rfl (fun w' hS => val_move rfl) ?_
      refine iS (e := 37) (by kernel_rfl : opAt F26.o6 2 = some (some 19, .indexAddr 30 (.tmp 17) (.tmp 18), none)) rfl rfl ha rfl (by kernel_rfl) rfl (by omega) (by omega) ?_
      intro b19 o19 h19
      try simp only [Int.toNat_natCast] at h19
      refine lSA (by kernel_rfl : opAt F26.o6 3 = some (some 20, .load 37 (.tmp 19), none)) rfl rfl (fun w' hS => h19.stay hS (by first | decide | (simp <;> omega))) h19 (by kernel_rfl) (by kernel_rfl) rfl rfl ?_
      intro v20 g20
      obtain rfl := rv_couple.1 g20
      refine yS (by kernel_rfl : opAt F26.o6 4 = some (some 21, .move (.tmp 1), none)) rfl rfl (fun w' hS => val_move rfl) ?_
      refine yS (by kernel_rfl : opAt F26.o6 5 = some (some 22, .move (.tmp 5), none)) rfl rfl (fun w' hS => val_move rfl) ?_
      refine iS (e := 37) (by kernel_rfl : opAt F26.o6 6 = some (some 23, .indexAddr 30 (.tmp 21) (.tmp 22), none)) rfl rfl hb rfl (by kernel_rfl) rfl (by omega) (by omega) ?_
      intro b23 o23 h23
      try simp only [Int.toNat_natCast] at h23
      refine lSA (by kernel_rfl : opAt F26.o6 7 = some (some 24, .load 37 (.tmp 23), none)) rfl rfl (fun w' hS => h23.stay hS (by first | decide | (simp <;> omega))) h23 (by kernel_rfl) (by kernel_rfl) rfl rfl ?_
      intro v24 g24
      obtain rfl := rv_couple.1 g24
      refine yS (by kernel_rfl : opAt F26.o6 8 = some (some 25, .binOp .neq 37 (.tmp 20) (.tmp 24) 37, none)) rfl rfl (fun w' hS => val_neC (a := a[i]) (b := b[i]) Try.underlying37 (by decide) (by decide) (by kernel_rfl) Try.underlying3 rfl rfl) ?_
      refine Sch.nil ?_
      refine run_if (x := F26.c26) (y := F26.c29) (o := .tmp 25) (by kernel_rfl) rfl (fun h25 => ?_) (fun h25 => ?_)
      · skip
        refine run_seq (x := F26.c27) (y := F26.c28) (by kernel_rfl) ?_
        refine run_plain (id := 7) (ops := F26.o7) [(0, true)] (by kernel_rfl) (by kernel_rfl) ?_
        refine yS (by kernel_rfl : opAt F26.o7 0 = some (some 4, .assign (.const (.bool false)), none)) rfl rfl (fun w' hS => val_assign rfl) ?_
        refine Sch.nil ?_
        refine run_ret1 (by kernel_rfl) Try.func26 Try.results26 rfl ?_
        exact ⟨by rw [decide_eq_false (fun e => h25 (by simp only [e]))], hT.out1 (by decide)⟩
      · skip
        refine run_skip (by kernel_rfl) ?_
        refine run_inBlock ?_
        refine run_plain (id := 5) (ops := F26.o5) [(0, true), (1, true), (2, true)] (by kernel_rfl) (by kernel_rfl) ?_
        refine yS (by kernel_rfl : opAt F26.o5 0 = some (some 15, .move (.tmp 5), none)) rfl rfl (fun w' hS => val_move rfl) ?_
        refine yS (by kernel_rfl : opAt F26.o5 1 = some (some 16, .binOp .add 3 (.tmp 15) (.const (.int .i64 1)) 3, none)) rfl rfl (fun w' hS => val_addi rfl rfl (by omega) (by omega)) ?_
        refine yS (by kernel_rfl : opAt F26.o5 2 = some (some 5, .assign (.tmp 16), none)) rfl rfl (fun w' hS => val_assign rfl) ?_
        refine Sch.nil ?_
        refine kp (sub_cons 0 rfl rfl (sub_cons 1 rfl rfl (sub_cons 5 rfl (eq_int (by simp)) (sub_nil _)))) (next1 (i + 1, C1) _ ⟨(by first | omega | (simp only; omega)), (fun q h1 h2 hq => by
            try simp only at hq
            by_cases e : q = i
            · subst e; exact Classical.not_not.1 h25
            · exact h0 q h1 h2 (by omega)), hF, hT, ha, hb⟩ (by first | omega | (simp only; omega)))
    · skip
      have hil : i = a.length := by omega
      refine run_exit (id := 0) (by kernel_rfl) rfl ?_
      refine run_seq (x := F26.c32) (y := F26.c33) (by kernel_rfl) ?_
      refine run_plain (id := 8) (ops := F26.o8) [(0, true)] (by kernel_rfl) (by kernel_rfl) ?_
      refine yS (by kernel_rfl : opAt F26.o8 0 = some (some 4, .assign (.const (.bool true)), none)) rfl rfl (fun w' hS => val_assign rfl) ?_
      refine Sch.nil ?_
      refine run_ret1 (by kernel_rfl) Try.func26 Try.results26 rfl ?_
      exact ⟨by rw [decide_eq_true (List.ext_getElem hln (fun q h1 h2 => h0 q h1 h2 (by omega)))], hT.out1 (by decide)⟩
namespace F29
noncomputable def c0 : Code := bodyOf Try.f29
noncomputable def c1 : Code := cl c0
noncomputable def o0 : Array Oper := rops c1
noncomputable def c2 : Code := cr c0
noncomputable def c3 : Code := cl c2
noncomputable def c4 : Code := cl c3
noncomputable def o1 : Array Oper := rops c4
noncomputable def c5 : Code := cr c3
noncomputable def c6 : Code := cl c5
noncomputable def c7 : Code := cl c6
noncomputable def o2 : Array Oper := rops c7
noncomputable def c8 : Code := cr c6
noncomputable def c9 : Code := cr c5
noncomputable def c10 : Code := cr c2
noncomputable def c11 : Code := cl c10
noncomputable def c12 : Code := cl c11
noncomputable def o3 : Array Oper := rops c12
noncomputable def c13 : Code := cr c11
noncomputable def c14 : Code := cl c13
noncomputable def c15 : Code := cl c14
noncomputable def c16 : Code := cl c15
noncomputable def c17 : Code := cl c16
noncomputable def o4 : Array Oper := rops c17
noncomputable def c18 : Code := cr c16
noncomputable def c19 : Code := cl c18
noncomputable def c20 : Code := cr c18
noncomputable def c21 : Code := cr c15
noncomputable def c22 : Code := cl c21
noncomputable def c23 : Code := cl c22
noncomputable def c24 : Code := cl c23
noncomputable def o6 : Array Oper := rops c24
noncomputable def c25 : Code := cr c23
noncomputable def c26 : Code := cl c25
noncomputable def c27 : Code := cl c26
noncomputable def o7 : Array Oper := rops c27
noncomputable def c28 : Code := cr c26
noncomputable def c29 : Code := cr c25
noncomputable def c30 : Code := cr c21
noncomputable def o5 : Array Oper := rops c30
noncomputable def c31 : Code := cr c10
noncomputable def c32 : Code := cl c31
noncomputable def o8 : Array Oper := rops c32
noncomputable def c33 : Code := cr c31
end F29
/-- Two lists are compared. -/
theorem rints_ok {w₀ : World} {C : Nat → Nat} {a b : List Int} {va vb : Value} (hF : Lim w₀ C) (ha : RV w₀ (Mc C) a va) (hb : RV w₀ (Mc C) b vb) : Calls Try.prog 29 #[va, vb] w₀ (Ret fun v w' => v = .bool (decide (a = b)) ∧ Stp [] w₀ C w' C) := by
  have hF0 := hF
  have hT := Stp.refl [2, 3, 4, 5, 6, 7, 8, 9] w₀ (col1 C)
  replace hF := hF.col1
  replace ha : RV w₀ (Mc (col1 C)) a va := by rw [Mc_col1]; exact ha
  replace hb : RV w₀ (Mc (col1 C)) b vb := by rw [Mc_col1]; exact hb
  refine calls_start (c := F29.c0) (N := 26) [va, vb] Try.func29 (by kernel_rfl) (by kernel_rfl) (by kernel_rfl) ?_
  show Run _ _ _ _ [(0, va), (1, vb)] _ _
  refine run_seq (x := F29.c1) (y := F29.c2) (by kernel_rfl) ?_
  refine run_plain (id := 0) (ops := F29.o0) [(0, true)] (by kernel_rfl) (by kernel_rfl) ?_
  refine yS (by kernel_rfl : opAt F29.o0 0 = some (some 4, .assign (.const (.bool false)), none)) rfl rfl (fun w' hS => val_assign rfl) ?_
  refine Sch.nil ?_
  refine run_seq (x := F29.c3) (y := F29.c10) (by kernel_rfl) ?_
  refine run_seq (x := F29.c4) (y := F29.c5) (by kernel_rfl) ?_
  refine run_plain (id := 1) (ops := F29.o1) [(0, true), (1, true), (2, true), (3, true), (4, true)] (by kernel_rfl) (by kernel_rfl) ?_
  refine yS (by kernel_rfl : opAt F29.o1 0 = some (some 6, .move (.tmp 0), none)) rfl rfl (fun w' hS => val_move rfl) ?_
  refine yS (by kernel_rfl : opAt F29.o1 1 = some (some 7, .call { callee := .builtin .len, args := #[(.tmp 6)], argTypes := #[22] }, none)) rfl rfl (fun w' hS => ha.lenV rfl Try.underlying22 w' ) ?_
  refine yS (by kernel_rfl : opAt F29.o1 2 = some (some 8, .move (.tmp 1), none)) rfl rfl (fun w' hS => val_move rfl) ?_
  refine yS (by kernel_rfl : opAt F29.o1 3 = some (some 9, .call { callee := .builtin .len, args := #[(.tmp 8)], argTypes := #[22] }, none)) rfl rfl (fun w' hS => hb.lenV rfl Try.underlying22 w' ) ?_
  refine yS (by kernel_rfl : opAt F29.o1 4 = some (some 10, .binOp .neq 3 (.tmp 7) (.tmp 9) 3, none)) rfl rfl (fun w' hS => val_neq rfl rfl) ?_
  refine Sch.nil ?_
  refine run_if (x := F29.c6) (y := F29.c9) (o := .tmp 10) (by kernel_rfl) rfl (fun h10 => ?_) (fun h10 => ?_)
  · skip
    have hln : ¬ a.length = b.length := by omega
    refine run_seq (x := F29.c7) (y := F29.c8) (by kernel_rfl) ?_
    refine run_plain (id := 2) (ops := F29.o2) [(0, true)] (by kernel_rfl) (by kernel_rfl) ?_
    refine yS (by kernel_rfl : opAt F29.o2 0 = some (some 4, .assign (.const (.bool false)), none)) rfl rfl (fun w' hS => val_assign rfl) ?_
    refine Sch.nil ?_
    refine run_ret1 (by kernel_rfl) Try.func29 Try.results29 rfl ?_
    exact ⟨by rw [decide_eq_false (fun e => hln (by rw [e]))], hT.out1 (by decide)⟩
  · skip
    have hln : a.length = b.length := by omega
    refine run_skip (by kernel_rfl) ?_
    refine run_seq (x := F29.c11) (y := F29.c31) (by kernel_rfl) ?_
    refine run_seq (x := F29.c12) (y := F29.c13) (by kernel_rfl) ?_
    refine run_plain (id := 3) (ops := F29.o3) [(0, true)] (by kernel_rfl) (by kernel_rfl) ?_
    refine yS (by kernel_rfl : opAt F29.o3 0 = some (some 5, .assign (.const (.int .i64 0)), none)) rfl rfl (fun w' hS => val_assign rfl) ?_
    refine Sch.nil ?_
    refine run_block (x := F29.c14) (id := 0) (by kernel_rfl) ?_
    
    refine run_loop (ι := Nat × (Nat → Nat)) (I := fun x w => x.1 ≤ a.length ∧ (∀ q (h1 : q < a.length) (h2 : q < b.length), q < x.1 → a[q] = b[q]) ∧ Lim w x.2 ∧ Stp [2, 3, 4, 5, 6, 7, 8, 9] w₀ (col1 C) w x.2 ∧ RV w (Mc x.2) a va ∧ RV w (Mc x.2) b vb) (e := fun x => [(0, va), (1, vb), (5, .int .i64 x.1)]) (m := fun x => a.length - x.1) (x₀ := (0, col1 C)) (body := F29.c15) (by kernel_rfl) (sub_cons 0 rfl rfl (sub_cons 1 rfl rfl (sub_cons 5 rfl rfl (sub_nil _)))) ?_ ?_
    · exact ⟨Nat.zero_le _, (fun q _ _ hq => by first | omega | (simp only at hq; omega)), hF, hT, ha, hb⟩
    intro ⟨i, C1⟩ w1 hI next
    obtain ⟨hi, h0, hF, hT, ha, hb⟩ := hI
    try simp only at hi h0 hF hT ha hb
    have next1 := next
    clear next
    show Run _ _ _ _ [(0, va), (1, vb), (5, .int .i64 i)] _ _
    have hle := ha.le
    refine run_seq (x := F29.c16) (y := F29.c21) (by kernel_rfl) ?_
    refine run_seq (x := F29.c17) (y := F29.c18) (by kernel_rfl) ?_
    refine run_plain (id := 4) (ops := F29.o4) [(0, true), (1, true), (2, true), (3, true)] (by kernel_rfl) (by kernel_rfl) ?_
    refine yS (by kernel_rfl : opAt F29.o4 0 = some (some 11, .move (.tmp 5), none)) rfl rfl (fun w' hS => val_move rfl) ?_
    refine yS (by kernel_rfl : opAt F29.o4 1 = some (some 12, .move (.tmp 0), none)) rfl rfl (fun w' hS => val_move rfl) ?_
    refine yS (by kernel_rfl : opAt F29.o4 2 = some (some 13, .call { callee := .builtin .len, args := #[(.tmp 12)], argTypes := #[22] }, none)) rfl rfl (fun w' hS => ha.lenV rfl Try.underlying22 w' ) ?_
    refine yS (by kernel_rfl : opAt F29.o4 3 = some (some 14, .binOp .lss 3 (.tmp 11) (.tmp 13) 3, none)) rfl rfl (fun w' hS => val_lss rfl rfl) ?_
    refine Sch.nil ?_
    refine run_if (x := F29.c19) (y := F29.c20) (o := .tmp 14) (by kernel_rfl) rfl (fun h14 => ?_) (fun h14 => ?_)
    · skip
      have hil : i < a.length := by omega
      refine run_skip (by kernel_rfl) ?_
      refine run_seq (x := F29.c22) (y := F29.c30) (by kernel_rfl) ?_
      refine run_block (x := F29.c23) (id := 1) (by kernel_rfl) ?_
      refine run_seq (x := F29.c24) (y := F29.c25) (by kernel_rfl) ?_
      refine run_draw (id := 6) (ops := F29.o6) [] (C1) [(0, true), (1, true), (2, true), (3, true), (4, true), (5, true), (6, true), (7, true), (8, true)] Try_mixed (by kernel_rfl) (by kernel_rfl) (by kernel_rfl) ?_
      intro w2 hs
      replace hF := hF.st hs
      replace hT := hT.trans hs (by simp)
      replace ha := ha.st hs (by first | decide | (simp <;> omega))
      replace hb := hb.st hs (by first | decide | (simp <;> omega))
      refine yS (by kernel_rfl : opAt F29.o6 0 = some (some 17, .move (.tmp 0), none)) rfl rfl (fun w' hS => val_move rfl) ?_
      refine yS (by kernel_rfl : opAt F29.o6 1 = some (some 18, .move (.tmp 5), none)) rfl rfl (fun w' hS => val_move rfl) ?_
      refine iS (e := 3) (by kernel_rfl : opAt F29.o6 2 = some (some 19, .indexAddr 22 (.tmp 17) (.tmp 18), none)) rfl rfl ha rfl (by kernel_rfl) rfl (by omega) (by omega) ?_
      intro b19 o19 h19
      try simp only [Int.toNat_natCast] at h19
      refine lS (by kernel_rfl : opAt F29.o6 3 = some (some 20, .load 3 (.tmp 19), none)) rfl rfl (fun w' hS => h19.stay hS (by first | decide | (simp <;> omega))) h19 (by kernel_rfl) rfl rfl ?_
      intro v20 g20
      first | (obtain rfl := rv_nat.1 g20) | (obtain rfl := rv_int.1 g20)
      refine yS (by kernel_rfl : opAt F29.o6 4 = some (some 21, .move (.tmp 1), none)) rfl rfl (fun w' hS => val_move rfl) ?_
      refine yS (by kernel_rfl : opAt F29.o6 5 = some (some 22, .move (.tmp 5), none)) rfl rfl (fun w' hS => val_move rfl) ?_
      refine iS (e := 3) (by kernel_rfl : opAt F29.o6 6 = some (some 23, .indexAddr 22 (.tmp 21) (.tmp 22), none)) rfl rfl hb rfl (by kernel_rfl) rfl (by omega) (by omega) ?_
      intro b23 o23 h23
      try simp only [Int.toNat_natCast] at h23
      refine lS (by kernel_rfl : opAt F29.o6 7 = some (some 24, .load 3 (.tmp 23), none)) rfl rfl (fun w' hS => h23.stay hS (by first | decide | (simp <;> omega))) h23 (by kernel_rfl) rfl rfl ?_
      intro v24 g24
      first | (obtain rfl := rv_nat.1 g24) | (obtain rfl := rv_int.1 g24)
      refine yS (by kernel_rfl : opAt F29.o6 8 = some (some 25, .binOp .neq 3 (.tmp 20) (.tmp 24) 3, none)) rfl rfl (fun w' hS => val_neq rfl rfl) ?_
      refine Sch.nil ?_
      refine run_if (x := F29.c26) (y := F29.c29) (o := .tmp 25) (by kernel_rfl) rfl (fun h25 => ?_) (fun h25 => ?_)
      · skip
        refine run_seq (x := F29.c27) (y := F29.c28) (by kernel_rfl) ?_
        refine run_plain (id := 7) (ops := F29.o7) [(0, true)] (by kernel_rfl) (by kernel_rfl) ?_
        refine yS (by kernel_rfl : opAt F29.o7 0 = some (some 4, .assign (.const (.bool false)), none)) rfl rfl (fun w' hS => val_assign rfl) ?_
        refine Sch.nil ?_
        refine run_ret1 (by kernel_rfl) Try.func29 Try.results29 rfl ?_
        exact ⟨by rw [decide_eq_false (fun e => h25 (by simp only [e]))], hT.out1 (by decide)⟩
      · skip
        refine run_skip (by kernel_rfl) ?_
        refine run_inBlock ?_
        refine run_plain (id := 5) (ops := F29.o5) [(0, true), (1, true), (2, true)] (by kernel_rfl) (by kernel_rfl) ?_
        refine yS (by kernel_rfl : opAt F29.o5 0 = some (some 15, .move (.tmp 5), none)) rfl rfl (fun w' hS => val_move rfl) ?_
        refine yS (by kernel_rfl : opAt F29.o5 1 = some (some 16, .binOp .add 3 (.tmp 15) (.const (.int .i64 1)) 3, none)) rfl rfl (fun w' hS => val_addi rfl rfl (by omega) (by omega)) ?_
        refine yS (by kernel_rfl : opAt F29.o5 2 = some (some 5, .assign (.tmp 16), none)) rfl rfl (fun w' hS => val_assign rfl) ?_
        refine Sch.nil ?_
        refine kp (sub_cons 0 rfl rfl (sub_cons 1 rfl rfl (sub_cons 5 rfl (eq_int (by simp)) (sub_nil _)))) (next1 (i + 1, C1) _ ⟨(by first | omega | (simp only; omega)), (fun q h1 h2 hq => by
            try simp only at hq
            by_cases e : q = i
            · subst e; exact Classical.not_not.1 h25
            · exact h0 q h1 h2 (by omega)), hF, hT, ha, hb⟩ (by first | omega | (simp only; omega)))
    · skip
      have hil : i = a.length := by omega
      refine run_exit (id := 0) (by kernel_rfl) rfl ?_
      refine run_seq (x := F29.c32) (y := F29.c33) (by kernel_rfl) ?_
      refine run_plain (id := 8) (ops := F29.o8) [(0, true)] (by kernel_rfl) (by kernel_rfl) ?_
      refine yS (by kernel_rfl : opAt F29.o8 0 = some (some 4, .assign (.const (.bool true)), none)) rfl rfl (fun w' hS => val_assign rfl) ?_
      refine Sch.nil ?_
      refine run_ret1 (by kernel_rfl) Try.func29 Try.results29 rfl ?_
      exact ⟨by rw [decide_eq_true (List.ext_getElem hln (fun q h1 h2 => h0 q h1 h2 (by omega)))], hT.out1 (by decide)⟩
namespace F28
noncomputable def c0 : Code := bodyOf Try.f28
noncomputable def c1 : Code := cl c0
noncomputable def o0 : Array Oper := rops c1
noncomputable def c2 : Code := cr c0
noncomputable def c3 : Code := cl c2
noncomputable def c4 : Code := cl c3
noncomputable def o1 : Array Oper := rops c4
noncomputable def c5 : Code := cr c3
noncomputable def c6 : Code := cl c5
noncomputable def o2 : Array Oper := rops c6
noncomputable def c7 : Code := cr c5
noncomputable def c8 : Code := cl c7
noncomputable def c9 : Code := cl c8
noncomputable def o3 : Array Oper := rops c9
noncomputable def c10 : Code := cr c8
noncomputable def c11 : Code := cr c7
noncomputable def c12 : Code := cr c2
noncomputable def c13 : Code := cl c12
noncomputable def o4 : Array Oper := rops c13
noncomputable def c14 : Code := cr c12
noncomputable def c15 : Code := cl c14
noncomputable def o5 : Array Oper := rops c15
noncomputable def c16 : Code := cr c14
noncomputable def c17 : Code := cl c16
noncomputable def c18 : Code := cl c17
noncomputable def o6 : Array Oper := rops c18
noncomputable def c19 : Code := cr c17
noncomputable def c20 : Code := cl c19
noncomputable def c21 : Code := cl c20
noncomputable def c22 : Code := cl c21
noncomputable def c23 : Code := cl c22
noncomputable def o7 : Array Oper := rops c23
noncomputable def c24 : Code := cr c22
noncomputable def c25 : Code := cl c24
noncomputable def c26 : Code := cr c24
noncomputable def c27 : Code := cr c21
noncomputable def c28 : Code := cl c27
noncomputable def c29 : Code := cl c28
noncomputable def c30 : Code := cl c29
noncomputable def o9 : Array Oper := rops c30
noncomputable def c31 : Code := cr c29
noncomputable def c32 : Code := cl c31
noncomputable def c33 : Code := cl c32
noncomputable def o10 : Array Oper := rops c33
noncomputable def c34 : Code := cr c32
noncomputable def c35 : Code := cl c34
noncomputable def c36 : Code := cl c35
noncomputable def c37 : Code := cl c36
noncomputable def c38 : Code := cl c37
noncomputable def o11 : Array Oper := rops c38
noncomputable def c39 : Code := cr c37
noncomputable def c40 : Code := cl c39
noncomputable def c41 : Code := cr c39
noncomputable def c42 : Code := cr c36
noncomputable def c43 : Code := cl c42
noncomputable def c44 : Code := cl c43
noncomputable def c45 : Code := cl c44
noncomputable def o13 : Array Oper := rops c45
noncomputable def c46 : Code := cr c44
noncomputable def c47 : Code := cl c46
noncomputable def o14 : Array Oper := rops c47
noncomputable def c48 : Code := cr c46
noncomputable def c49 : Code := cr c42
noncomputable def o12 : Array Oper := rops c49
noncomputable def c50 : Code := cr c31
noncomputable def o15 : Array Oper := rops c50
noncomputable def c51 : Code := cr c27
noncomputable def o8 : Array Oper := rops c51
noncomputable def c52 : Code := cr c16
noncomputable def c53 : Code := cl c52
noncomputable def o16 : Array Oper := rops c53
noncomputable def c54 : Code := cr c52
end F28
/-- The specification's 'Every'. -/
theorem revery_ok {w₀ : World} {C : Nat → Nat} {a b : List (List Block)} {va vb : Value} (hF : Lim w₀ C) (ha : RV w₀ (Mc C) a va) (hb : RV w₀ (Mc C) b vb) : Calls Try.prog 28 #[va, vb] w₀ (Ret fun v w' => ∃ u, v = .tuple #[u, .int .i64 (checkM a b 0)] ∧ Stp [] w₀ C w' C ∧ RV w' (Mc C) (if checkM a b 0 ≠ 0 then [] else evO (2 ^ a.length) (agrI a b a.length)) u) := by
  have hF0 := hF
  have hT := Stp.refl [2, 3, 4, 5, 6, 7, 8, 9] w₀ (col1 C)
  replace hF := hF.col1
  replace ha : RV w₀ (Mc (col1 C)) a va := by rw [Mc_col1]; exact ha
  replace hb : RV w₀ (Mc (col1 C)) b vb := by rw [Mc_col1]; exact hb
  refine calls_start (c := F28.c0) (N := 52) [va, vb] Try.func28 (by kernel_rfl) (by kernel_rfl) (by kernel_rfl) ?_
  show Run _ _ _ _ [(0, va), (1, vb)] _ _
  refine run_seq (x := F28.c1) (y := F28.c2) (by kernel_rfl) ?_
  refine run_plain (id := 0) (ops := F28.o0) [(0, true), (1, true)] (by kernel_rfl) (by kernel_rfl) ?_
  refine yS (by kernel_rfl : opAt F28.o0 0 = some (some 4, .assign (.const (.slice none 0 0)), none)) rfl rfl (fun w' hS => val_assign rfl) ?_
  refine yS (by kernel_rfl : opAt F28.o0 1 = some (some 5, .assign (.const (.int .i64 0)), none)) rfl rfl (fun w' hS => val_assign rfl) ?_
  refine Sch.nil ?_
  refine run_seq (x := F28.c3) (y := F28.c12) (by kernel_rfl) ?_
  refine run_seq (x := F28.c4) (y := F28.c5) (by kernel_rfl) ?_
  refine run_plain (id := 1) (ops := F28.o1) [(0, true), (1, true), (2, false), (3, true)] (by kernel_rfl) (by kernel_rfl) ?_
  refine yS (by kernel_rfl : opAt F28.o1 0 = some (some 13, .move (.tmp 0), none)) rfl rfl (fun w' hS => val_move rfl) ?_
  refine yS (by kernel_rfl : opAt F28.o1 1 = some (some 14, .move (.tmp 1), none)) rfl rfl (fun w' hS => val_move rfl) ?_
  refine cS (by kernel_rfl : opAt F28.o1 2 = some (some 15, .call { callee := .value (.func 40), args := #[(.tmp 13), (.tmp 14)], argTypes := #[28, 28] }, none)) rfl rfl (ent Try.call40 rfl) (rchk_ok hF ha hb) ?_
  rintro vw1 w1 ⟨rfl, hs⟩
  refine ⟨trivial, ?_⟩
  replace hF := hF.st hs
  replace hT := hT.trans hs (by simp)
  replace ha := ha.st hs (by first | decide | (simp <;> omega))
  replace hb := hb.st hs (by first | decide | (simp <;> omega))
  rw [← chkM_0]
  refine yS (by kernel_rfl : opAt F28.o1 3 = some (some 6, .assign (.tmp 15), none)) rfl rfl (fun w' hS => val_assign rfl) ?_
  refine Sch.nil ?_
  refine run_seq (x := F28.c6) (y := F28.c7) (by kernel_rfl) ?_
  refine run_plain (id := 2) (ops := F28.o2) [(0, true), (1, true)] (by kernel_rfl) (by kernel_rfl) ?_
  refine yS (by kernel_rfl : opAt F28.o2 0 = some (some 16, .move (.tmp 6), none)) rfl rfl (fun w' hS => val_move rfl) ?_
  refine yS (by kernel_rfl : opAt F28.o2 1 = some (some 17, .binOp .neq 31 (.tmp 16) (.const (.int .i64 0)) 31, none)) rfl rfl (fun w' hS => val_neq rfl rfl) ?_
  refine Sch.nil ?_
  refine run_if (x := F28.c8) (y := F28.c11) (o := .tmp 17) (by kernel_rfl) rfl (fun h17 => ?_) (fun h17 => ?_)
  · skip
    refine run_seq (x := F28.c9) (y := F28.c10) (by kernel_rfl) ?_
    refine run_plain (id := 3) (ops := F28.o3) [(0, true), (1, true), (2, true)] (by kernel_rfl) (by kernel_rfl) ?_
    refine yS (by kernel_rfl : opAt F28.o3 0 = some (some 18, .move (.tmp 6), none)) rfl rfl (fun w' hS => val_move rfl) ?_
    refine yS (by kernel_rfl : opAt F28.o3 1 = some (some 4, .assign (.const (.slice none 0 0)), none)) rfl rfl (fun w' hS => val_assign rfl) ?_
    refine yS (by kernel_rfl : opAt F28.o3 2 = some (some 5, .assign (.tmp 18), none)) rfl rfl (fun w' hS => val_assign rfl) ?_
    refine Sch.nil ?_
    refine run_ret2 (by kernel_rfl) Try.func28 Try.results28 rfl rfl ?_
    exact ⟨_, rfl, hT.out1 (by decide), by rw [if_pos h17]; exact rv_nil⟩
  · skip
    have hz : checkM a b 0 = 0 := by simpa using h17
    obtain ⟨hca, hcb, hlen, h8, hBa, hBb⟩ := cplS_agree' hz
    have hcl := cplS_len hz
    obtain ⟨z, hzz⟩ : ∃ z, z = 2 ^ a.length := ⟨_, rfl⟩
    have hz8 : z ≤ 2 ^ 8 := by rw [hzz]; exact Nat.pow_le_pow_right (by decide) h8
    refine run_skip (by kernel_rfl) ?_
    refine run_seq (x := F28.c13) (y := F28.c14) (by kernel_rfl) ?_
    refine run_plain (id := 4) (ops := F28.o4) [(0, true), (1, true), (2, false), (3, true), (4, true), (5, true), (6, true), (7, true)] (by kernel_rfl) (by kernel_rfl) ?_
    refine yS (by kernel_rfl : opAt F28.o4 0 = some (some 20, .move (.tmp 0), none)) rfl rfl (fun w' hS => val_move rfl) ?_
    refine yS (by kernel_rfl : opAt F28.o4 1 = some (some 21, .move (.tmp 1), none)) rfl rfl (fun w' hS => val_move rfl) ?_
    refine cS (by kernel_rfl : opAt F28.o4 2 = some (some 22, .call { callee := .value (.func 39), args := #[(.tmp 20), (.tmp 21)], argTypes := #[28, 28] }, none)) rfl rfl (ent Try.call39 rfl) (couples_ok hF ha hb hBa hBb hlen h8) ?_
    rintro vw2 w2 ⟨vu, vm, rfl, hs, hu, hm⟩
    refine ⟨trivial, ?_⟩
    replace hF := hF.st hs
    replace hT := hT.trans hs (by simp)
    replace ha := ha.st hs (by first | decide | (simp <;> omega))
    replace hb := hb.st hs (by first | decide | (simp <;> omega))
    obtain ⟨p, hp⟩ : ∃ p, p = cplS a b := ⟨_, rfl⟩
    have hps : ∀ q (h : q < p.length), (p[q]).2 < 256 := fun q h => by subst hp; exact cplS_small h8 (List.getElem_mem h)
    rw [← hp] at hu hm hcl
    refine yS (by kernel_rfl : opAt F28.o4 3 = some (some 19, .move (.tmp 22), none)) rfl rfl (fun w' hS => val_move rfl) ?_
    refine yS (by kernel_rfl : opAt F28.o4 4 = some (some 23, .extract (.tmp 19) 0, none)) rfl rfl (fun w' hS => val_extract rfl rfl) ?_
    refine yS (by kernel_rfl : opAt F28.o4 5 = some (some 24, .extract (.tmp 19) 1, none)) rfl rfl (fun w' hS => val_extract rfl rfl) ?_
    refine yS (by kernel_rfl : opAt F28.o4 6 = some (some 7, .assign (.tmp 23), none)) rfl rfl (fun w' hS => val_assign rfl) ?_
    refine yS (by kernel_rfl : opAt F28.o4 7 = some (some 8, .assign (.tmp 24), none)) rfl rfl (fun w' hS => val_assign rfl) ?_
    refine Sch.nil ?_
    refine run_seq (x := F28.c15) (y := F28.c16) (by kernel_rfl) ?_
    refine run_plain (id := 5) (ops := F28.o5) [(0, true)] (by kernel_rfl) (by kernel_rfl) ?_
    refine yS (by kernel_rfl : opAt F28.o5 0 = some (some 9, .assign (.const (.slice none 0 0)), none)) rfl rfl (fun w' hS => val_assign rfl) ?_
    refine Sch.nil ?_
    refine run_seq (x := F28.c17) (y := F28.c52) (by kernel_rfl) ?_
    refine run_seq (x := F28.c18) (y := F28.c19) (by kernel_rfl) ?_
    refine run_plain (id := 6) (ops := F28.o6) [(0, true)] (by kernel_rfl) (by kernel_rfl) ?_
    refine yS (by kernel_rfl : opAt F28.o6 0 = some (some 10, .assign (.const (.int .i64 0)), none)) rfl rfl (fun w' hS => val_assign rfl) ?_
    refine Sch.nil ?_
    refine run_block (x := F28.c20) (id := 0) (by kernel_rfl) ?_
    
    refine run_loop (ι := Nat × Value × (Nat → Nat)) (I := fun x w => x.1 ≤ z ∧ Lim w x.2.2 ∧ Stp [2, 3, 4, 5, 6, 7, 8, 9] w₀ (col1 C) w x.2.2 ∧ RV w (Mc x.2.2) a va ∧ RV w (Mc x.2.2) (p.map (·.2)) vm ∧ OwnL w x.2.2 3 3 x.2.1 (evO x.1 p)) (e := fun x => [(0, va), (8, vm), (9, x.2.1), (10, .int .i64 x.1)]) (m := fun x => z - x.1) (x₀ := (0, .slice none 0 0, col1 C)) (body := F28.c21) (by kernel_rfl) (sub_cons 0 rfl rfl (sub_cons 8 rfl rfl (sub_cons 9 rfl rfl (sub_cons 10 rfl rfl (sub_nil _))))) ?_ ?_
    · exact ⟨Nat.zero_le _, hF, hT, ha, hm, OwnL.nil⟩
    intro ⟨k, vo, C1⟩ w3 hI next
    obtain ⟨hk, hF, hT, ha, hm, ho⟩ := hI
    try simp only at hk hF hT ha hm ho
    have next1 := next
    clear next
    show Run _ _ _ _ [(0, va), (8, vm), (9, vo), (10, .int .i64 k)] _ _
    have hml : (p.map (·.2)).length = p.length := List.length_map ..
    have hel := evO_len k p
    have hkz : k ≤ 256 := by omega
    refine run_seq (x := F28.c22) (y := F28.c27) (by kernel_rfl) ?_
    refine run_seq (x := F28.c23) (y := F28.c24) (by kernel_rfl) ?_
    refine run_plain (id := 7) (ops := F28.o7) [(0, true), (1, true), (2, true), (3, true), (4, true)] (by kernel_rfl) (by kernel_rfl) ?_
    refine yS (by kernel_rfl : opAt F28.o7 0 = some (some 25, .move (.tmp 10), none)) rfl rfl (fun w' hS => val_move rfl) ?_
    refine yS (by kernel_rfl : opAt F28.o7 1 = some (some 26, .move (.tmp 0), none)) rfl rfl (fun w' hS => val_move rfl) ?_
    refine yS (by kernel_rfl : opAt F28.o7 2 = some (some 27, .call { callee := .builtin .len, args := #[(.tmp 26)], argTypes := #[28] }, none)) rfl rfl (fun w' hS => ha.lenV rfl Try.underlying28 w' ) ?_
    refine yS (by kernel_rfl : opAt F28.o7 3 = some (some 28, .binOp .shl 3 (.const (.int .i64 1)) (.tmp 27) 3, none)) rfl rfl (fun w' hS => val_shlE (r := (z : Int)) rfl rfl (by omega) (by rw [hzz]; exact shl1N (by omega))) ?_
    refine yS (by kernel_rfl : opAt F28.o7 4 = some (some 29, .binOp .lss 3 (.tmp 25) (.tmp 28) 3, none)) rfl rfl (fun w' hS => val_lss rfl rfl) ?_
    refine Sch.nil ?_
    refine run_if (x := F28.c25) (y := F28.c26) (o := .tmp 29) (by kernel_rfl) rfl (fun h29 => ?_) (fun h29 => ?_)
    · skip
      have hkz2 : k < z := by omega
      refine run_skip (by kernel_rfl) ?_
      refine run_seq (x := F28.c28) (y := F28.c51) (by kernel_rfl) ?_
      refine run_block (x := F28.c29) (id := 1) (by kernel_rfl) ?_
      refine run_seq (x := F28.c30) (y := F28.c31) (by kernel_rfl) ?_
      refine run_plain (id := 9) (ops := F28.o9) [(0, true)] (by kernel_rfl) (by kernel_rfl) ?_
      refine yS (by kernel_rfl : opAt F28.o9 0 = some (some 11, .assign (.const (.int .i64 0)), none)) rfl rfl (fun w' hS => val_assign rfl) ?_
      refine Sch.nil ?_
      refine run_seq (x := F28.c32) (y := F28.c50) (by kernel_rfl) ?_
      refine run_seq (x := F28.c33) (y := F28.c34) (by kernel_rfl) ?_
      refine run_plain (id := 10) (ops := F28.o10) [(0, true)] (by kernel_rfl) (by kernel_rfl) ?_
      refine yS (by kernel_rfl : opAt F28.o10 0 = some (some 12, .assign (.const (.int .i64 0)), none)) rfl rfl (fun w' hS => val_assign rfl) ?_
      refine Sch.nil ?_
      refine run_block (x := F28.c35) (id := 2) (by kernel_rfl) ?_
      
      refine run_loop (ι := Nat × (Nat → Nat)) (I := fun x w => x.1 ≤ p.length ∧ Lim w x.2 ∧ Stp [2, 3, 4, 5, 6, 7, 8, 9] w₀ (col1 C) w x.2 ∧ RV w (Mc x.2) a va ∧ RV w (Mc x.2) (p.map (·.2)) vm ∧ OwnL w x.2 3 3 vo (evO k p)) (e := fun x => [(0, va), (8, vm), (9, vo), (10, .int .i64 k), (11, .int .i64 (((p.take x.1).filter (hits k)).length : Nat)), (12, .int .i64 x.1)]) (m := fun x => p.length - x.1) (x₀ := (0, C1)) (body := F28.c36) (by kernel_rfl) (sub_cons 0 rfl rfl (sub_cons 8 rfl rfl (sub_cons 9 rfl rfl (sub_cons 10 rfl rfl (sub_cons 11 rfl rfl (sub_cons 12 rfl rfl (sub_nil _))))))) ?_ ?_
      · exact ⟨Nat.zero_le _, hF, hT, ha, hm, ho⟩
      intro ⟨i, C2⟩ w4 hI next
      obtain ⟨hi, hF, hT, ha, hm, ho⟩ := hI
      try simp only at hi hF hT ha hm ho
      have next2 := next
      clear next
      show Run _ _ _ _ [(0, va), (8, vm), (9, vo), (10, .int .i64 k), (11, .int .i64 (((p.take i).filter (hits k)).length : Nat)), (12, .int .i64 i)] _ _
      have hfl := filter_takeL (hits k) p i
      refine run_seq (x := F28.c37) (y := F28.c42) (by kernel_rfl) ?_
      refine run_seq (x := F28.c38) (y := F28.c39) (by kernel_rfl) ?_
      refine run_plain (id := 11) (ops := F28.o11) [(0, true), (1, true), (2, true), (3, true)] (by kernel_rfl) (by kernel_rfl) ?_
      refine yS (by kernel_rfl : opAt F28.o11 0 = some (some 32, .move (.tmp 12), none)) rfl rfl (fun w' hS => val_move rfl) ?_
      refine yS (by kernel_rfl : opAt F28.o11 1 = some (some 33, .move (.tmp 8), none)) rfl rfl (fun w' hS => val_move rfl) ?_
      refine yS (by kernel_rfl : opAt F28.o11 2 = some (some 34, .call { callee := .builtin .len, args := #[(.tmp 33)], argTypes := #[22] }, none)) rfl rfl (fun w' hS => hm.lenV rfl Try.underlying22 w' ) ?_
      refine yS (by kernel_rfl : opAt F28.o11 3 = some (some 35, .binOp .lss 3 (.tmp 32) (.tmp 34) 3, none)) rfl rfl (fun w' hS => val_lss rfl rfl) ?_
      refine Sch.nil ?_
      refine run_if (x := F28.c40) (y := F28.c41) (o := .tmp 35) (by kernel_rfl) rfl (fun h35 => ?_) (fun h35 => ?_)
      · skip
        have hil : i < p.length := by omega
        have hgm : (p.map (·.2))[i] = p[i].2 := List.getElem_map ..
        have hp8 := hps i hil
        have hft := filter_takeS (hits k) hil
        refine run_skip (by kernel_rfl) ?_
        refine run_seq (x := F28.c43) (y := F28.c49) (by kernel_rfl) ?_
        refine run_block (x := F28.c44) (id := 3) (by kernel_rfl) ?_
        refine run_seq (x := F28.c45) (y := F28.c46) (by kernel_rfl) ?_
        refine run_plain (id := 13) (ops := F28.o13) [(0, true), (1, true), (2, true), (3, false), (4, true), (5, true), (6, true)] (by kernel_rfl) (by kernel_rfl) ?_
        refine yS (by kernel_rfl : opAt F28.o13 0 = some (some 38, .move (.tmp 8), none)) rfl rfl (fun w' hS => val_move rfl) ?_
        refine yS (by kernel_rfl : opAt F28.o13 1 = some (some 39, .move (.tmp 12), none)) rfl rfl (fun w' hS => val_move rfl) ?_
        refine iS (e := 3) (by kernel_rfl : opAt F28.o13 2 = some (some 40, .indexAddr 22 (.tmp 38) (.tmp 39), none)) rfl rfl hm rfl (by kernel_rfl) rfl (by omega) (by omega) ?_
        intro b40 o40 h40
        try simp only [Int.toNat_natCast] at h40
        refine lN (by kernel_rfl : opAt F28.o13 3 = some (some 41, .load 3 (.tmp 40), none)) rfl rfl trivial h40 (by kernel_rfl) rfl rfl ?_
        intro v41 g41
        first | (obtain rfl := rv_nat.1 g41) | (obtain rfl := rv_int.1 g41)
        refine yS (by kernel_rfl : opAt F28.o13 4 = some (some 42, .move (.tmp 10), none)) rfl rfl (fun w' hS => val_move rfl) ?_
        refine yS (by kernel_rfl : opAt F28.o13 5 = some (some 43, .binOp .and 3 (.tmp 41) (.tmp 42) 3, none)) rfl rfl (fun w' hS => val_andE (r := (((p.map (·.2))[i] &&& k : Nat) : Int)) rfl rfl (bits_and (by omega) (by omega))) ?_
        refine yS (by kernel_rfl : opAt F28.o13 6 = some (some 44, .binOp .gtr 3 (.tmp 43) (.const (.int .i64 0)) 3, none)) rfl rfl (fun w' hS => val_gtr rfl rfl) ?_
        refine Sch.nil ?_
        refine run_if (x := F28.c47) (y := F28.c48) (o := .tmp 44) (by kernel_rfl) rfl (fun h44 => ?_) (fun h44 => ?_)
        · skip
          have hh : hits k p[i] = true := by rw [hgm] at h44; simp only [hits, decide_eq_true_eq]; omega
          refine run_plain (id := 14) (ops := F28.o14) [(0, true), (1, true), (2, true)] (by kernel_rfl) (by kernel_rfl) ?_
          refine yS (by kernel_rfl : opAt F28.o14 0 = some (some 45, .move (.tmp 11), none)) rfl rfl (fun w' hS => val_move rfl) ?_
          refine yS (by kernel_rfl : opAt F28.o14 1 = some (some 46, .binOp .add 3 (.tmp 45) (.const (.int .i64 1)) 3, none)) rfl rfl (fun w' hS => val_addi rfl rfl (by omega) (by omega)) ?_
          refine yS (by kernel_rfl : opAt F28.o14 2 = some (some 11, .assign (.tmp 46), none)) rfl rfl (fun w' hS => val_assign rfl) ?_
          refine Sch.nil ?_
          refine run_inBlock ?_
          refine run_plain (id := 12) (ops := F28.o12) [(0, true), (1, true), (2, true)] (by kernel_rfl) (by kernel_rfl) ?_
          refine yS (by kernel_rfl : opAt F28.o12 0 = some (some 36, .move (.tmp 12), none)) rfl rfl (fun w' hS => val_move rfl) ?_
          refine yS (by kernel_rfl : opAt F28.o12 1 = some (some 37, .binOp .add 3 (.tmp 36) (.const (.int .i64 1)) 3, none)) rfl rfl (fun w' hS => val_addi rfl rfl (by omega) (by omega)) ?_
          refine yS (by kernel_rfl : opAt F28.o12 2 = some (some 12, .assign (.tmp 37), none)) rfl rfl (fun w' hS => val_assign rfl) ?_
          refine Sch.nil ?_
          refine kp (sub_cons 0 rfl rfl (sub_cons 8 rfl rfl (sub_cons 9 rfl rfl (sub_cons 10 rfl rfl (sub_cons 11 rfl (eq_int (by simp only [hft, hh]; simp)) (sub_cons 12 rfl (eq_int (by simp)) (sub_nil _))))))) (next2 (i + 1, C2) _ ⟨(by first | omega | (simp only; omega)), hF, hT, ha, hm, ho⟩ (by first | omega | (simp only; omega)))
        · skip
          have hh : hits k p[i] = false := by rw [hgm] at h44; simp only [hits, decide_eq_false_iff_not]; omega
          refine run_skip (by kernel_rfl) ?_
          refine run_inBlock ?_
          refine run_plain (id := 12) (ops := F28.o12) [(0, true), (1, true), (2, true)] (by kernel_rfl) (by kernel_rfl) ?_
          refine yS (by kernel_rfl : opAt F28.o12 0 = some (some 36, .move (.tmp 12), none)) rfl rfl (fun w' hS => val_move rfl) ?_
          refine yS (by kernel_rfl : opAt F28.o12 1 = some (some 37, .binOp .add 3 (.tmp 36) (.const (.int .i64 1)) 3, none)) rfl rfl (fun w' hS => val_addi rfl rfl (by omega) (by omega)) ?_
          refine yS (by kernel_rfl : opAt F28.o12 2 = some (some 12, .assign (.tmp 37), none)) rfl rfl (fun w' hS => val_assign rfl) ?_
          refine Sch.nil ?_
          refine kp (sub_cons 0 rfl rfl (sub_cons 8 rfl rfl (sub_cons 9 rfl rfl (sub_cons 10 rfl rfl (sub_cons 11 rfl (eq_int (by simp only [hft, hh]; simp)) (sub_cons 12 rfl (eq_int (by simp)) (sub_nil _))))))) (next2 (i + 1, C2) _ ⟨(by first | omega | (simp only; omega)), hF, hT, ha, hm, ho⟩ (by first | omega | (simp only; omega)))
      · skip
        obtain rfl : i = p.length := by omega
        rw [List.take_length]
        refine run_exit (id := 2) (by kernel_rfl) rfl ?_
        refine run_plain (id := 15) (ops := F28.o15) [(0, true), (1, true), (2, false), (3, false), (4, true)] (by kernel_rfl) (by kernel_rfl) ?_
        refine yS (by kernel_rfl : opAt F28.o15 0 = some (some 47, .move (.tmp 9), none)) rfl rfl (fun w' hS => val_move rfl) ?_
        refine yS (by kernel_rfl : opAt F28.o15 1 = some (some 48, .move (.tmp 11), none)) rfl rfl (fun w' hS => val_move rfl) ?_
        refine aS (by kernel_rfl : opAt F28.o15 2 = some (some 49, .buildSlice 22 1 #[(0, (.tmp 48))], none)) rfl rfl (a_buildSlice (ys := ([((p.filter (hits k)).length : Int)] : List Int)) (e := 3) (bytes := 8) hF (by kernel_rfl) rfl (by decide) (by decide) ⟨rfl, ⟨_, rfl, rv_int.2 rfl⟩, trivial⟩) ?_
        rintro v49 w5 ⟨hs, hn1, hF⟩
        refine ⟨trivial, ?_⟩
        replace hT := hT.trans hs (by simp)
        replace ha := ha.st hs (by first | decide | (simp <;> omega))
        replace hm := hm.st hs (by first | decide | (simp <;> omega))
        replace ho := ho.st hs (by first | decide | (simp <;> omega)) (by first | decide | (simp <;> omega))
        refine aS (by kernel_rfl : opAt F28.o15 3 = some (some 50, .call { callee := .builtin .append, args := #[(.tmp 47), (.tmp 49)], argTypes := #[22, 22] }, none)) rfl rfl (a_append (e := 3) (bytes := 8) hF (by decide) rfl rfl (by kernel_rfl) (by decide) ho hn1 (by simp only [List.length_cons, List.length_nil]; omega) (by simp only [List.length_cons, List.length_nil]; omega)) ?_
        rintro v50 w6 ⟨Cw6, hs, ho, hF⟩
        refine ⟨trivial, ?_⟩
        replace hT := hT.trans hs (by simp)
        replace ha := ha.st hs (by first | decide | (simp <;> omega))
        replace hm := hm.st hs (by first | decide | (simp <;> omega))
        replace hn1 := hn1.st hs (by first | decide | (simp <;> omega))
        refine yS (by kernel_rfl : opAt F28.o15 4 = some (some 9, .assign (.tmp 50), none)) rfl rfl (fun w' hS => val_assign rfl) ?_
        refine Sch.nil ?_
        refine run_inBlock ?_
        refine run_plain (id := 8) (ops := F28.o8) [(0, true), (1, true), (2, true)] (by kernel_rfl) (by kernel_rfl) ?_
        refine yS (by kernel_rfl : opAt F28.o8 0 = some (some 30, .move (.tmp 10), none)) rfl rfl (fun w' hS => val_move rfl) ?_
        refine yS (by kernel_rfl : opAt F28.o8 1 = some (some 31, .binOp .add 3 (.tmp 30) (.const (.int .i64 1)) 3, none)) rfl rfl (fun w' hS => val_addi rfl rfl (by omega) (by omega)) ?_
        refine yS (by kernel_rfl : opAt F28.o8 2 = some (some 10, .assign (.tmp 31), none)) rfl rfl (fun w' hS => val_assign rfl) ?_
        refine Sch.nil ?_
        refine kp (sub_cons 0 rfl rfl (sub_cons 8 rfl rfl (sub_cons 9 rfl rfl (sub_cons 10 rfl (eq_int (by simp)) (sub_nil _))))) (next1 (k + 1, v50, Cw6) _ ⟨(by first | omega | (simp only; omega)), hF, hT, ha, hm, (by unfold evO; rw [List.range_succ, List.map_append]; exact ho)⟩ (by first | omega | (simp only; omega)))
    · skip
      obtain rfl : k = z := by omega
      refine run_exit (id := 0) (by kernel_rfl) rfl ?_
      refine run_seq (x := F28.c53) (y := F28.c54) (by kernel_rfl) ?_
      refine run_plain (id := 16) (ops := F28.o16) [(0, true), (1, true), (2, true)] (by kernel_rfl) (by kernel_rfl) ?_
      refine yS (by kernel_rfl : opAt F28.o16 0 = some (some 51, .move (.tmp 9), none)) rfl rfl (fun w' hS => val_move rfl) ?_
      refine yS (by kernel_rfl : opAt F28.o16 1 = some (some 4, .assign (.tmp 51), none)) rfl rfl (fun w' hS => val_assign rfl) ?_
      refine yS (by kernel_rfl : opAt F28.o16 2 = some (some 5, .assign (.const (.int .i64 0)), none)) rfl rfl (fun w' hS => val_assign rfl) ?_
      refine Sch.nil ?_
      refine run_ret2 (by kernel_rfl) Try.func28 Try.results28 rfl rfl ?_
      rw [hz]
      refine ⟨_, rfl, hT.out1 (by decide), ?_⟩
      rw [if_neg (by decide), ← cplS_evO hca hcb hlen, ← hp, ← hzz]
      exact ho.out hT hF0 (Mc_col1 C) (fun b _ => col1_lt C (by decide) b) (by omega)
end Go.Proofs.Ytejbklahkkjmhaa
