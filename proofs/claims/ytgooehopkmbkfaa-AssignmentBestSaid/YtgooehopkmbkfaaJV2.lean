/- Steps through functions of the program. -/
import Derived.Test.YtgooehopkmbkfaaJV1
set_option linter.unusedVariables false
set_option linter.unusedSimpArgs false
set_option maxRecDepth 100000
set_option maxHeartbeats 4000000
namespace Go.Proofs.Ytgooehopkmbkfaa
open Go.K Go.K.Rep

namespace F21
noncomputable def c0 : Code := bodyOf Try.f21
noncomputable def c1 : Code := cl c0
noncomputable def o0 : Array Oper := rops c1
noncomputable def c2 : Code := cr c0
noncomputable def c3 : Code := cl c2
noncomputable def c4 : Code := cl c3
noncomputable def o1 : Array Oper := rops c4
noncomputable def c5 : Code := cr c3
noncomputable def c6 : Code := cl c5
noncomputable def c7 : Code := cl c6
noncomputable def o2 : Array Oper := rops c7
noncomputable def c8 : Code := cr c6
noncomputable def c9 : Code := cr c5
noncomputable def c10 : Code := cr c2
noncomputable def c11 : Code := cl c10
noncomputable def c12 : Code := cl c11
noncomputable def o3 : Array Oper := rops c12
noncomputable def c13 : Code := cr c11
noncomputable def c14 : Code := cl c13
noncomputable def c15 : Code := cl c14
noncomputable def c16 : Code := cl c15
noncomputable def o4 : Array Oper := rops c16
noncomputable def c17 : Code := cr c15
noncomputable def c18 : Code := cl c17
noncomputable def c19 : Code := cl c18
noncomputable def c20 : Code := cr c18
noncomputable def c21 : Code := cr c17
noncomputable def c22 : Code := cl c21
noncomputable def c23 : Code := cl c22
noncomputable def c24 : Code := cl c23
noncomputable def o5 : Array Oper := rops c24
noncomputable def c25 : Code := cr c23
noncomputable def c26 : Code := cl c25
noncomputable def o6 : Array Oper := rops c26
noncomputable def c27 : Code := cr c25
noncomputable def c28 : Code := cl c27
noncomputable def c29 : Code := cl c28
noncomputable def o7 : Array Oper := rops c29
noncomputable def c30 : Code := cr c28
noncomputable def c31 : Code := cr c27
noncomputable def c32 : Code := cr c21
noncomputable def o8 : Array Oper := rops c32
noncomputable def c33 : Code := cr c10
noncomputable def c34 : Code := cl c33
noncomputable def o9 : Array Oper := rops c34
noncomputable def c35 : Code := cr c33
end F21
/-- 'same'. -/
theorem same_ok {w₀ : World} {C : Nat → Nat} {xs ys : List Couple} {px py : Value} (hF : Lim w₀ C) (hx : RV w₀ (Mc C) xs px) (hy : RV w₀ (Mc C) ys py) : Calls Try.prog 21 #[px, py] w₀ (Ret fun v w' => v = .bool (decide (xs = ys)) ∧ Stp [] w₀ C w' C) := by
  have hF0 := hF
  have hT := Stp.refl [2, 3, 4, 5, 6, 7, 8, 9] w₀ (col1 C)
  replace hF := hF.col1
  replace hx : RV w₀ (Mc (col1 C)) xs px := by rw [Mc_col1]; exact hx
  replace hy : RV w₀ (Mc (col1 C)) ys py := by rw [Mc_col1]; exact hy
  refine calls_start (c := F21.c0) (N := 26) [px, py] Try.func21 (by kernel_rfl) (by kernel_rfl) (by kernel_rfl) ?_
  show Run _ _ _ _ [(0, px), (1, py)] _ _
  refine run_seq (x := F21.c1) (y := F21.c2) (by kernel_rfl) ?_
  refine run_plain (id := 0) (ops := F21.o0) [(0, true)] (by kernel_rfl) (by kernel_rfl) ?_
  refine yS (by kernel_rfl : opAt F21.o0 0 = some (some 4, .assign (.const (.bool false)), none)) rfl rfl (fun w' hS => val_assign rfl) ?_
  refine Sch.nil ?_
  refine run_seq (x := F21.c3) (y := F21.c10) (by kernel_rfl) ?_
  refine run_seq (x := F21.c4) (y := F21.c5) (by kernel_rfl) ?_
  refine run_plain (id := 1) (ops := F21.o1) [(0, true), (1, true), (2, true), (3, true), (4, true)] (by kernel_rfl) (by kernel_rfl) ?_
  refine yS (by kernel_rfl : opAt F21.o1 0 = some (some 6, .move (.tmp 0), none)) rfl rfl (fun w' hS => val_move rfl) ?_
  refine yS (by kernel_rfl : opAt F21.o1 1 = some (some 7, .call { callee := .builtin .len, args := #[(.tmp 6)], argTypes := #[24] }, none)) rfl rfl (fun w' hS => hx.lenV rfl Try.underlying24 w' ) ?_
  refine yS (by kernel_rfl : opAt F21.o1 2 = some (some 8, .move (.tmp 1), none)) rfl rfl (fun w' hS => val_move rfl) ?_
  refine yS (by kernel_rfl : opAt F21.o1 3 = some (some 9, .call { callee := .builtin .len, args := #[(.tmp 8)], argTypes := #[24] }, none)) rfl rfl (fun w' hS => hy.lenV rfl Try.underlying24 w' ) ?_
  refine yS (by kernel_rfl : opAt F21.o1 4 = some (some 10, .binOp .neq 3 (.tmp 7) (.tmp 9) 3, none)) rfl rfl (fun w' hS => val_neq rfl rfl) ?_
  refine Sch.nil ?_
  refine run_if (x := F21.c6) (y := F21.c9) (o := .tmp 10) (by kernel_rfl) rfl (fun h10 => ?_) (fun h10 => ?_)
  · skip
    refine run_seq (x := F21.c7) (y := F21.c8) (by kernel_rfl) ?_
    refine run_plain (id := 2) (ops := F21.o2) [(0, true)] (by kernel_rfl) (by kernel_rfl) ?_
    refine yS (by kernel_rfl : opAt F21.o2 0 = some (some 4, .assign (.const (.bool false)), none)) rfl rfl (fun w' hS => val_assign rfl) ?_
    refine Sch.nil ?_
    refine run_ret1 (by kernel_rfl) Try.func21 Try.results21 rfl ?_
    exact ⟨by rw [decide_eq_false (fun e => h10 (by rw [e]))], hT.out1 (by decide)⟩
  · skip
    have hlen : xs.length = ys.length := by omega
    refine run_skip (by kernel_rfl) ?_
    refine run_seq (x := F21.c11) (y := F21.c33) (by kernel_rfl) ?_
    refine run_seq (x := F21.c12) (y := F21.c13) (by kernel_rfl) ?_
    refine run_plain (id := 3) (ops := F21.o3) [(0, true), (1, true), (2, true)] (by kernel_rfl) (by kernel_rfl) ?_
    refine yS (by kernel_rfl : opAt F21.o3 0 = some (some 11, .move (.tmp 0), none)) rfl rfl (fun w' hS => val_move rfl) ?_
    refine yS (by kernel_rfl : opAt F21.o3 1 = some (some 12, .call { callee := .builtin .len, args := #[(.tmp 11)], argTypes := #[24] }, none)) rfl rfl (fun w' hS => hx.lenV rfl Try.underlying24 w' ) ?_
    refine yS (by kernel_rfl : opAt F21.o3 2 = some (some 13, .move (.const (.int .i64 0)), none)) rfl rfl (fun w' hS => val_move rfl) ?_
    refine Sch.nil ?_
    refine run_block (x := F21.c14) (id := 0) (by kernel_rfl) ?_
    
    refine run_loop (ι := Nat × (Nat → Nat)) (I := fun x w => x.1 ≤ xs.length ∧ (∀ q (h1 : q < xs.length) (h2 : q < ys.length), q < x.1 → xs[q] = ys[q]) ∧ Lim w x.2 ∧ Stp [2, 3, 4, 5, 6, 7, 8, 9] w₀ (col1 C) w x.2 ∧ RV w (Mc x.2) xs px ∧ RV w (Mc x.2) ys py) (e := fun x => [(0, px), (1, py), (12, .int .i64 xs.length), (13, .int .i64 x.1)]) (m := fun x => xs.length - x.1) (x₀ := (0, col1 C)) (body := F21.c15) (by kernel_rfl) (sub_cons 0 rfl rfl (sub_cons 1 rfl rfl (sub_cons 12 rfl rfl (sub_cons 13 rfl rfl (sub_nil _))))) ?_ ?_
    · exact ⟨Nat.zero_le _, (fun q _ _ hq => by simp only at hq; omega), hF, hT, hx, hy⟩
    intro ⟨i, C1⟩ w1 hI next
    obtain ⟨hi, h0, hF, hT, hx, hy⟩ := hI
    try simp only at hi h0 hF hT hx hy
    have next1 := next
    clear next
    show Run _ _ _ _ [(0, px), (1, py), (12, .int .i64 xs.length), (13, .int .i64 i)] _ _
    have hle := hx.le
    refine run_seq (x := F21.c16) (y := F21.c17) (by kernel_rfl) ?_
    refine run_plain (id := 4) (ops := F21.o4) [(0, true)] (by kernel_rfl) (by kernel_rfl) ?_
    refine yS (by kernel_rfl : opAt F21.o4 0 = some (some 14, .binOp .lss 3 (.tmp 13) (.tmp 12) 3, none)) rfl rfl (fun w' hS => val_lss rfl rfl) ?_
    refine Sch.nil ?_
    refine run_seq (x := F21.c18) (y := F21.c21) (by kernel_rfl) ?_
    refine run_if (x := F21.c19) (y := F21.c20) (o := .tmp 14) (by kernel_rfl) rfl (fun h14 => ?_) (fun h14 => ?_)
    · skip
      have hil : i < xs.length := by omega
      have hil2 : i < ys.length := by omega
      refine run_skip (by kernel_rfl) ?_
      refine run_seq (x := F21.c22) (y := F21.c32) (by kernel_rfl) ?_
      refine run_block (x := F21.c23) (id := 1) (by kernel_rfl) ?_
      refine run_seq (x := F21.c24) (y := F21.c25) (by kernel_rfl) ?_
      refine run_plain (id := 5) (ops := F21.o5) [(0, true), (1, true)] (by kernel_rfl) (by kernel_rfl) ?_
      refine yS (by kernel_rfl : opAt F21.o5 0 = some (some 15, .move (.tmp 13), none)) rfl rfl (fun w' hS => val_move rfl) ?_
      refine yS (by kernel_rfl : opAt F21.o5 1 = some (some 5, .assign (.tmp 15), none)) rfl rfl (fun w' hS => val_assign rfl) ?_
      refine Sch.nil ?_
      refine run_seq (x := F21.c26) (y := F21.c27) (by kernel_rfl) ?_
      refine run_draw (id := 6) (ops := F21.o6) [] (C1) [(0, true), (1, true), (2, true), (3, true), (4, true), (5, true), (6, true), (7, true), (8, true)] Try_mixed (by kernel_rfl) (by kernel_rfl) (by kernel_rfl) ?_
      intro w2 hs
      replace hF := hF.st hs
      replace hT := hT.trans hs (by simp)
      replace hx := hx.st hs (by first | decide | (simp <;> omega))
      replace hy := hy.st hs (by first | decide | (simp <;> omega))
      refine yS (by kernel_rfl : opAt F21.o6 0 = some (some 16, .move (.tmp 0), none)) rfl rfl (fun w' hS => val_move rfl) ?_
      refine yS (by kernel_rfl : opAt F21.o6 1 = some (some 17, .move (.tmp 5), none)) rfl rfl (fun w' hS => val_move rfl) ?_
      refine iS (e := 53) (by kernel_rfl : opAt F21.o6 2 = some (some 18, .indexAddr 24 (.tmp 16) (.tmp 17), none)) rfl rfl hx rfl (by kernel_rfl) rfl (by omega) (by omega) ?_
      intro b18 o18 h18
      try simp only [Int.toNat_natCast] at h18
      refine lSA (by kernel_rfl : opAt F21.o6 3 = some (some 19, .load 53 (.tmp 18), none)) rfl rfl (fun w' hS => h18.stay hS (by first | decide | (simp <;> omega))) h18 (by kernel_rfl) (by kernel_rfl) rfl rfl ?_
      intro v19 g19
      obtain rfl := rv_couple.1 g19
      refine yS (by kernel_rfl : opAt F21.o6 4 = some (some 20, .move (.tmp 1), none)) rfl rfl (fun w' hS => val_move rfl) ?_
      refine yS (by kernel_rfl : opAt F21.o6 5 = some (some 21, .move (.tmp 5), none)) rfl rfl (fun w' hS => val_move rfl) ?_
      refine iS (e := 53) (by kernel_rfl : opAt F21.o6 6 = some (some 22, .indexAddr 24 (.tmp 20) (.tmp 21), none)) rfl rfl hy rfl (by kernel_rfl) rfl (by omega) (by omega) ?_
      intro b22 o22 h22
      try simp only [Int.toNat_natCast] at h22
      refine lSA (by kernel_rfl : opAt F21.o6 7 = some (some 23, .load 53 (.tmp 22), none)) rfl rfl (fun w' hS => h22.stay hS (by first | decide | (simp <;> omega))) h22 (by kernel_rfl) (by kernel_rfl) rfl rfl ?_
      intro v23 g23
      obtain rfl := rv_couple.1 g23
      refine yS (by kernel_rfl : opAt F21.o6 8 = some (some 24, .binOp .neq 53 (.tmp 19) (.tmp 23) 53, none)) rfl rfl (fun w' hS => val_neC (a := (xs[i]'hil)) (b := (ys[i]'hil2)) Try.underlying53 (by decide) (by decide) (by kernel_rfl) Try.underlying3 rfl rfl) ?_
      refine Sch.nil ?_
      refine run_if (x := F21.c28) (y := F21.c31) (o := .tmp 24) (by kernel_rfl) rfl (fun h24 => ?_) (fun h24 => ?_)
      · skip
        refine run_seq (x := F21.c29) (y := F21.c30) (by kernel_rfl) ?_
        refine run_plain (id := 7) (ops := F21.o7) [(0, true)] (by kernel_rfl) (by kernel_rfl) ?_
        refine yS (by kernel_rfl : opAt F21.o7 0 = some (some 4, .assign (.const (.bool false)), none)) rfl rfl (fun w' hS => val_assign rfl) ?_
        refine Sch.nil ?_
        refine run_ret1 (by kernel_rfl) Try.func21 Try.results21 rfl ?_
        exact ⟨by rw [decide_eq_false (fun e => h24 (by subst e; rfl))], hT.out1 (by decide)⟩
      · skip
        refine run_skip (by kernel_rfl) ?_
        refine run_inBlock ?_
        refine run_plain (id := 8) (ops := F21.o8) [(0, true), (1, true)] (by kernel_rfl) (by kernel_rfl) ?_
        refine yS (by kernel_rfl : opAt F21.o8 0 = some (some 25, .binOp .add 3 (.tmp 13) (.const (.int .i64 1)) 3, none)) rfl rfl (fun w' hS => val_addi rfl rfl (by omega) (by omega)) ?_
        refine yS (by kernel_rfl : opAt F21.o8 1 = some (some 13, .move (.tmp 25), none)) rfl rfl (fun w' hS => val_move rfl) ?_
        refine Sch.nil ?_
        refine kp (sub_cons 0 rfl rfl (sub_cons 1 rfl rfl (sub_cons 12 rfl rfl (sub_cons 13 rfl (eq_int (by simp)) (sub_nil _))))) (next1 (i + 1, C1) _ ⟨(by first | omega | (simp only; omega)), (fun q h1 h2 hq => by
            simp only at hq
            by_cases e : q = i
            · subst e; exact Classical.not_not.1 h24
            · exact h0 q h1 h2 (by omega)), hF, hT, hx, hy⟩ (by first | omega | (simp only; omega)))
    · skip
      have hil : i = xs.length := by omega
      refine run_exit (id := 0) (by kernel_rfl) rfl ?_
      refine run_seq (x := F21.c34) (y := F21.c35) (by kernel_rfl) ?_
      refine run_plain (id := 9) (ops := F21.o9) [(0, true)] (by kernel_rfl) (by kernel_rfl) ?_
      refine yS (by kernel_rfl : opAt F21.o9 0 = some (some 4, .assign (.const (.bool true)), none)) rfl rfl (fun w' hS => val_assign rfl) ?_
      refine Sch.nil ?_
      refine run_ret1 (by kernel_rfl) Try.func21 Try.results21 rfl ?_
      exact ⟨by rw [decide_eq_true (List.ext_getElem hlen (fun q h1 h2 => h0 q h1 h2 (by omega)))], hT.out1 (by decide)⟩
end Go.Proofs.Ytgooehopkmbkfaa
