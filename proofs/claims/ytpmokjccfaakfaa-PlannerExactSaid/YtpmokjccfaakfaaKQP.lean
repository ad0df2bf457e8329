/- Steps through functions of the program. -/
import Derived.Test.YtpmokjccfaakfaaKQN
set_option linter.unusedVariables false
set_option linter.unusedSimpArgs false
set_option maxRecDepth 100000
set_option maxHeartbeats 400000
namespace Go.Proofs.Ytpmokjccfaakfaa
open Go.K Go.K.Rep

namespace F41
noncomputable def c0 : Code := bodyOf Try.f41
noncomputable def c1 : Code := cl c0
noncomputable def o0 : Array Oper := rops c1
noncomputable def c2 : Code := cr c0
noncomputable def c3 : Code := cl c2
noncomputable def c4 : Code := cl c3
noncomputable def o1 : Array Oper := rops c4
noncomputable def c5 : Code := cr c3
noncomputable def c6 : Code := cl c5
noncomputable def c7 : Code := cl c6
noncomputable def o2 : Array Oper := rops c7
noncomputable def c8 : Code := cr c6
noncomputable def c9 : Code := cr c5
noncomputable def c10 : Code := cr c2
noncomputable def c11 : Code := cl c10
noncomputable def c12 : Code := cl c11
noncomputable def o3 : Array Oper := rops c12
noncomputable def c13 : Code := cr c11
noncomputable def c14 : Code := cl c13
noncomputable def c15 : Code := cl c14
noncomputable def c16 : Code := cl c15
noncomputable def c17 : Code := cl c16
noncomputable def o4 : Array Oper := rops c17
noncomputable def c18 : Code := cr c16
noncomputable def c19 : Code := cl c18
noncomputable def c20 : Code := cr c18
noncomputable def c21 : Code := cr c15
noncomputable def c22 : Code := cl c21
noncomputable def c23 : Code := cl c22
noncomputable def c24 : Code := cl c23
noncomputable def o6 : Array Oper := rops c24
noncomputable def c25 : Code := cr c23
noncomputable def c26 : Code := cl c25
noncomputable def c27 : Code := cl c26
noncomputable def o7 : Array Oper := rops c27
noncomputable def c28 : Code := cr c26
noncomputable def c29 : Code := cr c25
noncomputable def c30 : Code := cr c21
noncomputable def o5 : Array Oper := rops c30
noncomputable def c31 : Code := cr c10
noncomputable def c32 : Code := cl c31
noncomputable def o8 : Array Oper := rops c32
noncomputable def c33 : Code := cr c31
end F41
theorem ints_same {w₀ : World} {C : Nat → Nat} {l : List Int} {va vb : Value} (hF : Lim w₀ C) (ha : RV w₀ (Mc C) l va) (hb : RV w₀ (Mc C) l vb) : Calls Try.prog 41 #[va, vb] w₀ (Ret fun v w' => v = .bool true ∧ Stp [] w₀ C w' C) := by
  have hF0 := hF
  have hT := Stp.refl [2, 3, 4, 5, 6, 7, 8, 9] w₀ (col1 C)
  replace hF := hF.col1
  replace ha : RV w₀ (Mc (col1 C)) l va := by rw [Mc_col1]; exact ha
  replace hb : RV w₀ (Mc (col1 C)) l vb := by rw [Mc_col1]; exact hb
  refine calls_start (c := F41.c0) (N := 26) [va, vb] Try.func41 (by kernel_rfl) (by kernel_rfl) (by kernel_rfl) ?_
  show Run _ _ _ _ [(0, va), (1, vb)] _ _
  refine run_seq (x := F41.c1) (y := F41.c2) (by kernel_rfl) ?_
  refine run_plain (id := 0) (ops := F41.o0) [(0, true)] (by kernel_rfl) (by kernel_rfl) ?_
  refine yS (by kernel_rfl : opAt F41.o0 0 = some (some 4, .assign (.const (.bool false)), none)) rfl rfl (fun w' hS => val_assign rfl) ?_
  refine Sch.nil ?_
  refine run_seq (x := F41.c3) (y := F41.c10) (by kernel_rfl) ?_
  refine run_seq (x := F41.c4) (y := F41.c5) (by kernel_rfl) ?_
  refine run_plain (id := 1) (ops := F41.o1) [(0, true), (1, true), (2, true), (3, true), (4, true)] (by kernel_rfl) (by kernel_rfl) ?_
  refine yS (by kernel_rfl : opAt F41.o1 0 = some (some 6, .move (.tmp 0), none)) rfl rfl (fun w' hS => val_move rfl) ?_
  refine yS (by kernel_rfl : opAt F41.o1 1 = some (some 7, .call { callee := .builtin .len, args := #[(.tmp 6)], argTypes := #[22] }, none)) rfl rfl (fun w' hS => ha.lenV rfl Try.underlying22 w' ) ?_
  refine yS (by kernel_rfl : opAt F41.o1 2 = some (some 8, .move (.tmp 1), none)) rfl rfl (fun w' hS => val_move rfl) ?_
  refine yS (by kernel_rfl : opAt F41.o1 3 = some (some 9, .call { callee := .builtin .len, args := #[(.tmp 8)], argTypes := #[22] }, none)) rfl rfl (fun w' hS => hb.lenV rfl Try.underlying22 w' ) ?_
  refine yS (by kernel_rfl : opAt F41.o1 4 = some (some 10, .binOp .neq 3 (.tmp 7) (.tmp 9) 3, none)) rfl rfl (fun w' hS => val_F (val_neq rfl rfl) (fun e => e rfl)) ?_
  refine Sch.nil ?_
  refine run_cond (x := F41.c6) (y := F41.c9) (o := .tmp 10) (b := false) (by kernel_rfl) rfl (fun h => by cases h) (fun _ => ?_)
  refine run_skip (by kernel_rfl) ?_
  refine run_seq (x := F41.c11) (y := F41.c31) (by kernel_rfl) ?_
  refine run_seq (x := F41.c12) (y := F41.c13) (by kernel_rfl) ?_
  refine run_plain (id := 3) (ops := F41.o3) [(0, true)] (by kernel_rfl) (by kernel_rfl) ?_
  refine yS (by kernel_rfl : opAt F41.o3 0 = some (some 5, .assign (.const (.int .i64 0)), none)) rfl rfl (fun w' hS => val_assign rfl) ?_
  refine Sch.nil ?_
  refine run_block (x := F41.c14) (id := 0) (by kernel_rfl) ?_
  
  refine run_loop (ι := Nat × (Nat → Nat)) (I := fun x w => x.1 ≤ l.length ∧ Lim w x.2 ∧ Stp [2, 3, 4, 5, 6, 7, 8, 9] w₀ (col1 C) w x.2 ∧ RV w (Mc x.2) l va ∧ RV w (Mc x.2) l vb) (e := fun x => [(0, va), (1, vb), (5, .int .i64 x.1)]) (m := fun x => l.length - x.1) (x₀ := (0, col1 C)) (body := F41.c15) (by kernel_rfl) (sub_cons 0 rfl rfl (sub_cons 1 rfl rfl (sub_cons 5 rfl rfl (sub_nil _)))) ?_ ?_
  · exact ⟨Nat.zero_le _, hF, hT, ha, hb⟩
  intro ⟨i, C1⟩ w1 hI next
  obtain ⟨hi, hF, hT, ha, hb⟩ := hI
  try simp only at hi hF hT ha hb
  have next1 := next
  clear next
  show Run _ _ _ _ [(0, va), (1, vb), (5, .int .i64 i)] _ _
  have hle := ha.le
  refine run_seq (x := F41.c16) (y := F41.c21) (by kernel_rfl) ?_
  refine run_seq (x := F41.c17) (y := F41.c18) (by kernel_rfl) ?_
  refine run_plain (id := 4) (ops := F41.o4) [(0, true), (1, true), (2, true), (3, true)] (by kernel_rfl) (by kernel_rfl) ?_
  refine yS (by kernel_rfl : opAt F41.o4 0 = some (some 11, .move (.tmp 5), none)) rfl rfl (fun w' hS => val_move rfl) ?_
  refine yS (by kernel_rfl : opAt F41.o4 1 = some (some 12, .move (.tmp 0), none)) rfl rfl (fun w' hS => val_move rfl) ?_
  refine yS (by kernel_rfl : opAt F41.o4 2 = some (some 13, .call { callee := .builtin .len, args := #[(.tmp 12)], argTypes := #[22] }, none)) rfl rfl (fun w' hS => ha.lenV rfl Try.underlying22 w' ) ?_
  refine yS (by kernel_rfl : opAt F41.o4 3 = some (some 14, .binOp .lss 3 (.tmp 11) (.tmp 13) 3, none)) rfl rfl (fun w' hS => val_lss rfl rfl) ?_
  refine Sch.nil ?_
  refine run_if (x := F41.c19) (y := F41.c20) (o := .tmp 14) (by kernel_rfl) rfl (fun h14 => ?_) (fun h14 => ?_)
  · skip
    have hil : i < l.length := by omega
    refine run_skip (by kernel_rfl) ?_
    refine run_seq (x := F41.c22) (y := F41.c30) (by kernel_rfl) ?_
    refine run_block (x := F41.c23) (id := 1) (by kernel_rfl) ?_
    refine run_seq (x := F41.c24) (y := F41.c25) (by kernel_rfl) ?_
    refine run_draw (id := 6) (ops := F41.o6) [] (C1) [(0, true), (1, true), (2, true), (3, true), (4, true), (5, true), (6, true), (7, true), (8, true)] Try_mixed (by kernel_rfl) (by kernel_rfl) (by kernel_rfl) ?_
    intro w2 hs
    replace hF := hF.st hs
    replace hT := hT.trans hs (by simp)
    replace ha := ha.st hs (by first | decide | (simp <;> omega))
    replace hb := hb.st hs (by first | decide | (simp <;> omega))
    refine yS (by kernel_rfl : opAt F41.o6 0 = some (some 17, .move (.tmp 0), none)) rfl rfl (fun w' hS => val_move rfl) ?_
    refine yS (by kernel_rfl : opAt F41.o6 1 = some (some 18, .move (.tmp 5), none)) rfl rfl (fun w' hS => val_move rfl) ?_
    refine iS (e := 3) (by kernel_rfl : opAt F41.o6 2 = some (some 19, .indexAddr 22 (.tmp 17) (.tmp 18), none)) rfl rfl ha rfl (by kernel_rfl) rfl (by omega) (by omega) ?_
    intro b19 o19 h19
    try simp only [Int.toNat_natCast] at h19
    refine lS (by kernel_rfl : opAt F41.o6 3 = some (some 20, .load 3 (.tmp 19), none)) rfl rfl (fun w' hS => h19.stay hS (by decide)) h19 (by kernel_rfl) rfl rfl ?_
    intro v20 g20
    obtain rfl := rv_int.1 g20
    refine yS (by kernel_rfl : opAt F41.o6 4 = some (some 21, .move (.tmp 1), none)) rfl rfl (fun w' hS => val_move rfl) ?_
    refine yS (by kernel_rfl : opAt F41.o6 5 = some (some 22, .move (.tmp 5), none)) rfl rfl (fun w' hS => val_move rfl) ?_
    refine iS (e := 3) (by kernel_rfl : opAt F41.o6 6 = some (some 23, .indexAddr 22 (.tmp 21) (.tmp 22), none)) rfl rfl hb rfl (by kernel_rfl) rfl (by omega) (by omega) ?_
    intro b23 o23 h23
    try simp only [Int.toNat_natCast] at h23
    refine lS (by kernel_rfl : opAt F41.o6 7 = some (some 24, .load 3 (.tmp 23), none)) rfl rfl (fun w' hS => h23.stay hS (by decide)) h23 (by kernel_rfl) rfl rfl ?_
    intro v24 g24
    obtain rfl := rv_int.1 g24
    refine yS (by kernel_rfl : opAt F41.o6 8 = some (some 25, .binOp .neq 3 (.tmp 20) (.tmp 24) 3, none)) rfl rfl (fun w' hS => val_F (val_neq rfl rfl) (fun e => e rfl)) ?_
    refine Sch.nil ?_
    refine run_cond (x := F41.c26) (y := F41.c29) (o := .tmp 25) (b := false) (by kernel_rfl) rfl (fun h => by cases h) (fun _ => ?_)
    refine run_skip (by kernel_rfl) ?_
    refine run_inBlock ?_
    refine run_plain (id := 5) (ops := F41.o5) [(0, true), (1, true), (2, true)] (by kernel_rfl) (by kernel_rfl) ?_
    refine yS (by kernel_rfl : opAt F41.o5 0 = some (some 15, .move (.tmp 5), none)) rfl rfl (fun w' hS => val_move rfl) ?_
    refine yS (by kernel_rfl : opAt F41.o5 1 = some (some 16, .binOp .add 3 (.tmp 15) (.const (.int .i64 1)) 3, none)) rfl rfl (fun w' hS => val_addi rfl rfl (by omega) (by omega)) ?_
    refine yS (by kernel_rfl : opAt F41.o5 2 = some (some 5, .assign (.tmp 16), none)) rfl rfl (fun w' hS => val_assign rfl) ?_
    refine Sch.nil ?_
    refine kp (sub_cons 0 rfl rfl (sub_cons 1 rfl rfl (sub_cons 5 rfl (eq_int (by simp)) (sub_nil _)))) (next1 (i + 1, C1) _ ⟨(by first | omega | (simp only; omega)), hF, hT, ha, hb⟩ (by first | omega | (simp only; omega)))
  · skip
    refine run_exit (id := 0) (by kernel_rfl) rfl ?_
    refine run_seq (x := F41.c32) (y := F41.c33) (by kernel_rfl) ?_
    refine run_plain (id := 8) (ops := F41.o8) [(0, true)] (by kernel_rfl) (by kernel_rfl) ?_
    refine yS (by kernel_rfl : opAt F41.o8 0 = some (some 4, .assign (.const (.bool true)), none)) rfl rfl (fun w' hS => val_assign rfl) ?_
    refine Sch.nil ?_
    refine run_ret1 (by kernel_rfl) Try.func41 Try.results41 rfl ?_
    exact ⟨rfl, hT.out1 (by decide)⟩
namespace F13
noncomputable def c0 : Code := bodyOf Try.f13
noncomputable def c1 : Code := cl c0
noncomputable def o0 : Array Oper := rops c1
noncomputable def c2 : Code := cr c0
noncomputable def c3 : Code := cl c2
noncomputable def c4 : Code := cl c3
noncomputable def o1 : Array Oper := rops c4
noncomputable def c5 : Code := cr c3
noncomputable def c6 : Code := cl c5
noncomputable def c7 : Code := cl c6
noncomputable def o2 : Array Oper := rops c7
noncomputable def c8 : Code := cr c6
noncomputable def c9 : Code := cr c5
noncomputable def c10 : Code := cr c2
noncomputable def c11 : Code := cl c10
noncomputable def c12 : Code := cl c11
noncomputable def o3 : Array Oper := rops c12
noncomputable def c13 : Code := cr c11
noncomputable def c14 : Code := cl c13
noncomputable def c15 : Code := cl c14
noncomputable def c16 : Code := cl c15
noncomputable def c17 : Code := cl c16
noncomputable def o4 : Array Oper := rops c17
noncomputable def c18 : Code := cr c16
noncomputable def c19 : Code := cl c18
noncomputable def c20 : Code := cr c18
noncomputable def c21 : Code := cr c15
noncomputable def c22 : Code := cl c21
noncomputable def c23 : Code := cl c22
noncomputable def c24 : Code := cl c23
noncomputable def o6 : Array Oper := rops c24
noncomputable def c25 : Code := cr c23
noncomputable def c26 : Code := cl c25
noncomputable def c27 : Code := cl c26
noncomputable def o7 : Array Oper := rops c27
noncomputable def c28 : Code := cr c26
noncomputable def c29 : Code := cr c25
noncomputable def c30 : Code := cr c21
noncomputable def o5 : Array Oper := rops c30
noncomputable def c31 : Code := cr c10
noncomputable def c32 : Code := cl c31
noncomputable def o8 : Array Oper := rops c32
noncomputable def c33 : Code := cr c31
end F13
theorem sameAtoms_same {w₀ : World} {C : Nat → Nat} {l : List Couple} {va vb : Value} (hF : Lim w₀ C) (ha : RV w₀ (Mc C) l va) (hb : RV w₀ (Mc C) l vb) : Calls Try.prog 13 #[va, vb] w₀ (Ret fun v w' => v = .bool true ∧ Stp [] w₀ C w' C) := by
  have hF0 := hF
  have hT := Stp.refl [2, 3, 4, 5, 6, 7, 8, 9] w₀ (col1 C)
  replace hF := hF.col1
  replace ha : RV w₀ (Mc (col1 C)) l va := by rw [Mc_col1]; exact ha
  replace hb : RV w₀ (Mc (col1 C)) l vb := by rw [Mc_col1]; exact hb
  refine calls_start (c := F13.c0) (N := 26) [va, vb] Try.func13 (by kernel_rfl) (by kernel_rfl) (by kernel_rfl) ?_
  show Run _ _ _ _ [(0, va), (1, vb)] _ _
  refine run_seq (x := F13.c1) (y := F13.c2) (by kernel_rfl) ?_
  refine run_plain (id := 0) (ops := F13.o0) [(0, true)] (by kernel_rfl) (by kernel_rfl) ?_
  refine yS (by kernel_rfl : opAt F13.o0 0 = some (some 4, .assign (.const (.bool false)), none)) rfl rfl (fun w' hS => val_assign rfl) ?_
  refine Sch.nil ?_
  refine run_seq (x := F13.c3) (y := F13.c10) (by kernel_rfl) ?_
  refine run_seq (x := F13.c4) (y := F13.c5) (by kernel_rfl) ?_
  refine run_plain (id := 1) (ops := F13.o1) [(0, true), (1, true), (2, true), (3, true), (4, true)] (by kernel_rfl) (by kernel_rfl) ?_
  refine yS (by kernel_rfl : opAt F13.o1 0 = some (some 6, .move (.tmp 0), none)) rfl rfl (fun w' hS => val_move rfl) ?_
  refine yS (by kernel_rfl : opAt F13.o1 1 = some (some 7, .call { callee := .builtin .len, args := #[(.tmp 6)], argTypes := #[26] }, none)) rfl rfl (fun w' hS => ha.lenV rfl Try.underlying26 w' ) ?_
  refine yS (by kernel_rfl : opAt F13.o1 2 = some (some 8, .move (.tmp 1), none)) rfl rfl (fun w' hS => val_move rfl) ?_
  refine yS (by kernel_rfl : opAt F13.o1 3 = some (some 9, .call { callee := .builtin .len, args := #[(.tmp 8)], argTypes := #[26] }, none)) rfl rfl (fun w' hS => hb.lenV rfl Try.underlying26 w' ) ?_
  refine yS (by kernel_rfl : opAt F13.o1 4 = some (some 10, .binOp .neq 3 (.tmp 7) (.tmp 9) 3, none)) rfl rfl (fun w' hS => val_F (val_neq rfl rfl) (fun e => e rfl)) ?_
  refine Sch.nil ?_
  refine run_cond (x := F13.c6) (y := F13.c9) (o := .tmp 10) (b := false) (by kernel_rfl) rfl (fun h => by cases h) (fun _ => ?_)
  refine run_skip (by kernel_rfl) ?_
  refine run_seq (x := F13.c11) (y := F13.c31) (by kernel_rfl) ?_
  refine run_seq (x := F13.c12) (y := F13.c13) (by kernel_rfl) ?_
  refine run_plain (id := 3) (ops := F13.o3) [(0, true)] (by kernel_rfl) (by kernel_rfl) ?_
  refine yS (by kernel_rfl : opAt F13.o3 0 = some (some 5, .assign (.const (.int .i64 0)), none)) rfl rfl (fun w' hS => val_assign rfl) ?_
  refine Sch.nil ?_
  refine run_block (x := F13.c14) (id := 0) (by kernel_rfl) ?_
  
  refine run_loop (ι := Nat × (Nat → Nat)) (I := fun x w => x.1 ≤ l.length ∧ Lim w x.2 ∧ Stp [2, 3, 4, 5, 6, 7, 8, 9] w₀ (col1 C) w x.2 ∧ RV w (Mc x.2) l va ∧ RV w (Mc x.2) l vb) (e := fun x => [(0, va), (1, vb), (5, .int .i64 x.1)]) (m := fun x => l.length - x.1) (x₀ := (0, col1 C)) (body := F13.c15) (by kernel_rfl) (sub_cons 0 rfl rfl (sub_cons 1 rfl rfl (sub_cons 5 rfl rfl (sub_nil _)))) ?_ ?_
  · exact ⟨Nat.zero_le _, hF, hT, ha, hb⟩
  intro ⟨i, C1⟩ w1 hI next
  obtain ⟨hi, hF, hT, ha, hb⟩ := hI
  try simp only at hi hF hT ha hb
  have next1 := next
  clear next
  show Run _ _ _ _ [(0, va), (1, vb), (5, .int .i64 i)] _ _
  have hle := ha.le
  refine run_seq (x := F13.c16) (y := F13.c21) (by kernel_rfl) ?_
  refine run_seq (x := F13.c17) (y := F13.c18) (by kernel_rfl) ?_
  refine run_plain (id := 4) (ops := F13.o4) [(0, true), (1, true), (2, true), (3, true)] (by kernel_rfl) (by kernel_rfl) ?_
  refine yS (by kernel_rfl : opAt F13.o4 0 = some (some 11, .move (.tmp 5), none)) rfl rfl (fun w' hS => val_move rfl) ?_
  refine yS (by kernel_rfl : opAt F13.o4 1 = some (some 12, .move (.tmp 0), none)) rfl rfl (fun w' hS => val_move rfl) ?_
  refine yS (by kernel_rfl : opAt F13.o4 2 = some (some 13, .call { callee := .builtin .len, args := #[(.tmp 12)], argTypes := #[26] }, none)) rfl rfl (fun w' hS => ha.lenV rfl Try.underlying26 w' ) ?_
  refine yS (by kernel_rfl : opAt F13.o4 3 = some (some 14, .binOp .lss 3 (.tmp 11) (.tmp 13) 3, none)) rfl rfl (fun w' hS => val_lss rfl rfl) ?_
  refine Sch.nil ?_
  refine run_if (x := F13.c19) (y := F13.c20) (o := .tmp 14) (by kernel_rfl) rfl (fun h14 => ?_) (fun h14 => ?_)
  · skip
    have hil : i < l.length := by omega
    refine run_skip (by kernel_rfl) ?_
    refine run_seq (x := F13.c22) (y := F13.c30) (by kernel_rfl) ?_
    refine run_block (x := F13.c23) (id := 1) (by kernel_rfl) ?_
    refine run_seq (x := F13.c24) (y := F13.c25) (by kernel_rfl) ?_
    refine run_draw (id := 6) (ops := F13.o6) [] (C1) [(0, true), (1, true), (2, true), (3, true), (4, true), (5, true), (6, true), (7, true), (8, true)] Try_mixed (by kernel_rfl) (by kernel_rfl) (by kernel_rfl) ?_
    intro w2 hs
    replace hF := hF.st hs
    replace hT := hT.trans hs (by simp)
    replace ha := ha.st hs (by first | decide | (simp <;> omega))
    replace hb := hb.st hs (by first | decide | (simp <;> omega))
    refine yS (by kernel_rfl : opAt F13.o6 0 = some (some 17, .move (.tmp 0), none)) rfl rfl (fun w' hS => val_move rfl) ?_
    refine yS (by kernel_rfl : opAt F13.o6 1 = some (some 18, .move (.tmp 5), none)) rfl rfl (fun w' hS => val_move rfl) ?_
    refine iS (e := 50) (by kernel_rfl : opAt F13.o6 2 = some (some 19, .indexAddr 26 (.tmp 17) (.tmp 18), none)) rfl rfl ha rfl (by kernel_rfl) rfl (by omega) (by omega) ?_
    intro b19 o19 h19
    try simp only [Int.toNat_natCast] at h19
    refine lSA (by kernel_rfl : opAt F13.o6 3 = some (some 20, .load 50 (.tmp 19), none)) rfl rfl (fun w' hS => h19.stay hS (by decide)) h19 (by kernel_rfl) (by kernel_rfl) rfl rfl ?_
    intro v20 g20
    refine yS (by kernel_rfl : opAt F13.o6 4 = some (some 21, .move (.tmp 1), none)) rfl rfl (fun w' hS => val_move rfl) ?_
    refine yS (by kernel_rfl : opAt F13.o6 5 = some (some 22, .move (.tmp 5), none)) rfl rfl (fun w' hS => val_move rfl) ?_
    refine iS (e := 50) (by kernel_rfl : opAt F13.o6 6 = some (some 23, .indexAddr 26 (.tmp 21) (.tmp 22), none)) rfl rfl hb rfl (by kernel_rfl) rfl (by omega) (by omega) ?_
    intro b23 o23 h23
    try simp only [Int.toNat_natCast] at h23
    refine lSA (by kernel_rfl : opAt F13.o6 7 = some (some 24, .load 50 (.tmp 23), none)) rfl rfl (fun w' hS => h23.stay hS (by decide)) h23 (by kernel_rfl) (by kernel_rfl) rfl rfl ?_
    intro v24 g24
    obtain rfl := rv_couple.1 g20
    obtain rfl := rv_couple.1 g24
    refine yS (by kernel_rfl : opAt F13.o6 8 = some (some 25, .binOp .neq 50 (.tmp 20) (.tmp 24) 50, none)) rfl rfl (fun w' hS => val_F (val_neC (a := _) (b := _) Try.underlying50 (by decide) (by decide) (by kernel_rfl) Try.underlying3 rfl rfl) (fun e => e rfl)) ?_
    refine Sch.nil ?_
    refine run_cond (x := F13.c26) (y := F13.c29) (o := .tmp 25) (b := false) (by kernel_rfl) rfl (fun h => by cases h) (fun _ => ?_)
    refine run_skip (by kernel_rfl) ?_
    refine run_inBlock ?_
    refine run_plain (id := 5) (ops := F13.o5) [(0, true), (1, true), (2, true)] (by kernel_rfl) (by kernel_rfl) ?_
    refine yS (by kernel_rfl : opAt F13.o5 0 = some (some 15, .move (.tmp 5), none)) rfl rfl (fun w' hS => val_move rfl) ?_
    refine yS (by kernel_rfl : opAt F13.o5 1 = some (some 16, .binOp .add 3 (.tmp 15) (.const (.int .i64 1)) 3, none)) rfl rfl (fun w' hS => val_addi rfl rfl (by omega) (by omega)) ?_
    refine yS (by kernel_rfl : opAt F13.o5 2 = some (some 5, .assign (.tmp 16), none)) rfl rfl (fun w' hS => val_assign rfl) ?_
    refine Sch.nil ?_
    refine kp (sub_cons 0 rfl rfl (sub_cons 1 rfl rfl (sub_cons 5 rfl (eq_int (by simp)) (sub_nil _)))) (next1 (i + 1, C1) _ ⟨(by first | omega | (simp only; omega)), hF, hT, ha, hb⟩ (by first | omega | (simp only; omega)))
  · skip
    refine run_exit (id := 0) (by kernel_rfl) rfl ?_
    refine run_seq (x := F13.c32) (y := F13.c33) (by kernel_rfl) ?_
    refine run_plain (id := 8) (ops := F13.o8) [(0, true)] (by kernel_rfl) (by kernel_rfl) ?_
    refine yS (by kernel_rfl : opAt F13.o8 0 = some (some 4, .assign (.const (.bool true)), none)) rfl rfl (fun w' hS => val_assign rfl) ?_
    refine Sch.nil ?_
    refine run_ret1 (by kernel_rfl) Try.func13 Try.results13 rfl ?_
    exact ⟨rfl, hT.out1 (by decide)⟩
namespace F25
noncomputable def c0 : Code := bodyOf Try.f25
noncomputable def c1 : Code := cl c0
noncomputable def o0 : Array Oper := rops c1
noncomputable def c2 : Code := cr c0
noncomputable def c3 : Code := cl c2
noncomputable def o1 : Array Oper := rops c3
noncomputable def c4 : Code := cr c2
end F25
theorem same_ok {w₀ : World} {C : Nat → Nat} {l : List Int} {ua ub : Value} {p m : Int} (hF : Lim w₀ C) (ha : RV w₀ (Mc C) l ua) (hb : RV w₀ (Mc C) l ub) : Calls Try.prog 25 #[.agg #[ua, .int .i64 p, .int .i64 m], .agg #[ub, .int .i64 p, .int .i64 m]] w₀ (Ret fun v w' => v = .bool true ∧ Stp [] w₀ C w' C) := by
  have hF0 := hF
  have hT := Stp.refl [2, 3, 4, 5, 6, 7, 8, 9] w₀ (col1 C)
  replace hF := hF.col1
  replace ha : RV w₀ (Mc (col1 C)) l ua := by rw [Mc_col1]; exact ha
  replace hb : RV w₀ (Mc (col1 C)) l ub := by rw [Mc_col1]; exact hb
  refine calls_start (c := F25.c0) (N := 24) [.agg #[ua, .int .i64 p, .int .i64 m], .agg #[ub, .int .i64 p, .int .i64 m]] Try.func25 (by kernel_rfl) (by kernel_rfl) (by kernel_rfl) ?_
  show Run _ _ _ _ [(0, .agg #[ua, .int .i64 p, .int .i64 m]), (1, .agg #[ub, .int .i64 p, .int .i64 m])] _ _
  refine run_seq (x := F25.c1) (y := F25.c2) (by kernel_rfl) ?_
  refine run_plain (id := 0) (ops := F25.o0) [(0, false), (1, false), (2, true)] (by kernel_rfl) (by kernel_rfl) ?_
  refine aS (by kernel_rfl : opAt F25.o0 0 = some (some 2, .box 44 (.tmp 0), none)) rfl rfl (a_box (cs := [ua, .int .i64 p, .int .i64 m]) hF 3 rfl rfl) ?_
  rintro _ w1 ⟨Cw1, bw1, rfl, hs, hx, hF⟩
  refine ⟨trivial, ?_⟩
  replace hT := hT.trans hs (by simp)
  replace ha := ha.st hs (by first | decide | (simp <;> omega))
  replace hb := hb.st hs (by first | decide | (simp <;> omega))
  refine aS (by kernel_rfl : opAt F25.o0 1 = some (some 3, .box 44 (.tmp 1), none)) rfl rfl (a_box (cs := [ub, .int .i64 p, .int .i64 m]) hF 4 rfl rfl) ?_
  rintro _ w2 ⟨Cw2, bw2, rfl, hs, hy, hF⟩
  refine ⟨trivial, ?_⟩
  replace hT := hT.trans hs (by simp)
  replace ha := ha.st hs (by first | decide | (simp <;> omega))
  replace hb := hb.st hs (by first | decide | (simp <;> omega))
  replace hx := hx.st hs (by first | decide | (simp <;> omega))
  refine yS (by kernel_rfl : opAt F25.o0 2 = some (some 4, .assign (.const (.bool false)), none)) rfl rfl (fun w' hS => val_assign rfl) ?_
  refine Sch.nil ?_
  refine run_seq (x := F25.c3) (y := F25.c4) (by kernel_rfl) ?_
  refine run_plain (id := 1) (ops := F25.o1) [(0, true), (1, false), (2, true), (3, false), (4, true), (5, true), (6, true), (7, false), (8, true), (9, false), (10, true), (11, true), (12, true), (13, true), (14, false), (15, true), (16, false), (17, false), (18, true), (19, true)] (by kernel_rfl) (by kernel_rfl) ?_
  refine yS (by kernel_rfl : opAt F25.o1 0 = some (some 5, .fieldAddr 44 (.tmp 2) 1, none)) rfl rfl (fun w' hS => val_fieldAddr (off := 1) (by kernel_rfl) rfl) ?_
  refine nS (by kernel_rfl : opAt F25.o1 1 = some (some 6, .load 3 (.tmp 5), none)) rfl rfl trivial (val_loadOwn hx.at_ (by kernel_rfl) rfl rfl) ?_
  refine yS (by kernel_rfl : opAt F25.o1 2 = some (some 7, .fieldAddr 44 (.tmp 3) 1, none)) rfl rfl (fun w' hS => val_fieldAddr (off := 1) (by kernel_rfl) rfl) ?_
  refine nS (by kernel_rfl : opAt F25.o1 3 = some (some 8, .load 3 (.tmp 7), none)) rfl rfl trivial (val_loadOwn hy.at_ (by kernel_rfl) rfl rfl) ?_
  refine yS (by kernel_rfl : opAt F25.o1 4 = some (some 9, .binOp .eql 3 (.tmp 6) (.tmp 8) 3, none)) rfl rfl (fun w' hS => val_T (val_eql rfl rfl) rfl) ?_
  refine yS (by kernel_rfl : opAt F25.o1 5 = some (some 10, .move (.tmp 9), none)) rfl rfl (fun w' hS => val_move rfl) ?_
  refine yS (by kernel_rfl : opAt F25.o1 6 = some (some 11, .fieldAddr 44 (.tmp 2) 2, (some (5, true)))) rfl rfl (fun w' hS => val_fieldAddr (off := 2) (by kernel_rfl) rfl) ?_
  refine nS (by kernel_rfl : opAt F25.o1 7 = some (some 12, .load 3 (.tmp 11), (some (5, true)))) rfl rfl trivial (val_loadOwn hx.at_ (by kernel_rfl) rfl rfl) ?_
  refine yS (by kernel_rfl : opAt F25.o1 8 = some (some 13, .fieldAddr 44 (.tmp 3) 2, (some (5, true)))) rfl rfl (fun w' hS => val_fieldAddr (off := 2) (by kernel_rfl) rfl) ?_
  refine nS (by kernel_rfl : opAt F25.o1 9 = some (some 14, .load 3 (.tmp 13), (some (5, true)))) rfl rfl trivial (val_loadOwn hy.at_ (by kernel_rfl) rfl rfl) ?_
  refine yS (by kernel_rfl : opAt F25.o1 10 = some (some 15, .binOp .eql 3 (.tmp 12) (.tmp 14) 3, (some (5, true)))) rfl rfl (fun w' hS => val_T (val_eql rfl rfl) rfl) ?_
  refine yS (by kernel_rfl : opAt F25.o1 11 = some (some 16, .pick (.tmp 10) (.tmp 15) (.const (.bool false)), none)) rfl rfl (fun w' hS => val_pick_t rfl rfl) ?_
  refine yS (by kernel_rfl : opAt F25.o1 12 = some (some 17, .move (.tmp 16), none)) rfl rfl (fun w' hS => val_move rfl) ?_
  refine yS (by kernel_rfl : opAt F25.o1 13 = some (some 18, .fieldAddr 44 (.tmp 2) 0, (some (12, true)))) rfl rfl (fun w' hS => val_fieldAddr (off := 0) (by kernel_rfl) rfl) ?_
  refine nS (by kernel_rfl : opAt F25.o1 14 = some (some 19, .load 22 (.tmp 18), (some (12, true)))) rfl rfl trivial (val_loadOwn hx.at_ (by kernel_rfl) rfl rfl) ?_
  refine yS (by kernel_rfl : opAt F25.o1 15 = some (some 20, .fieldAddr 44 (.tmp 3) 0, (some (12, true)))) rfl rfl (fun w' hS => val_fieldAddr (off := 0) (by kernel_rfl) rfl) ?_
  refine nS (by kernel_rfl : opAt F25.o1 16 = some (some 21, .load 22 (.tmp 20), (some (12, true)))) rfl rfl trivial (val_loadOwn hy.at_ (by kernel_rfl) rfl rfl) ?_
  refine cS (by kernel_rfl : opAt F25.o1 17 = some (some 22, .call { callee := .value (.func 41), args := #[(.tmp 19), (.tmp 21)], argTypes := #[22, 22] }, (some (12, true)))) rfl rfl (ent Try.call41 rfl) (ints_same hF ha hb) ?_
  rintro vw3 w3 ⟨rfl, hs⟩
  refine ⟨trivial, ?_⟩
  replace hF := hF.st hs
  replace hT := hT.trans hs (by simp)
  replace ha := ha.st hs (by first | decide | (simp <;> omega))
  replace hb := hb.st hs (by first | decide | (simp <;> omega))
  replace hx := hx.st hs (by first | decide | (simp <;> omega))
  replace hy := hy.st hs (by first | decide | (simp <;> omega))
  refine yS (by kernel_rfl : opAt F25.o1 18 = some (some 23, .pick (.tmp 17) (.tmp 22) (.const (.bool false)), none)) rfl rfl (fun w' hS => val_pick_t rfl rfl) ?_
  refine yS (by kernel_rfl : opAt F25.o1 19 = some (some 4, .assign (.tmp 23), none)) rfl rfl (fun w' hS => val_assign rfl) ?_
  refine Sch.nil ?_
  refine run_ret1 (by kernel_rfl) Try.func25 Try.results25 rfl ?_
  exact ⟨rfl, hT.out1 (by decide)⟩
end Go.Proofs.Ytpmokjccfaakfaa

