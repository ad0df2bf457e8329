/- Steps through functions of the program. -/
import Derived.Test.YtbdlkdiadplmcaaJX3
import Derived.Test.YtbdlkdiadplmcaaL2
set_option linter.unusedVariables false
set_option linter.unusedSimpArgs false
set_option maxRecDepth 100000
set_option maxHeartbeats 4000000
namespace Go.Proofs.Ytbdlkdiadplmcaa
open Go.K Go.K.Rep

namespace F41
noncomputable def c0 : Code := bodyOf Try.f41
noncomputable def c1 : Code := cl c0
noncomputable def o0 : Array Oper := rops c1
noncomputable def c2 : Code := cr c0
noncomputable def c3 : Code := cl c2
noncomputable def o1 : Array Oper := rops c3
noncomputable def c4 : Code := cr c2
noncomputable def c5 : Code := cl c4
noncomputable def c6 : Code := cl c5
noncomputable def o2 : Array Oper := rops c6
noncomputable def c7 : Code := cr c5
noncomputable def c8 : Code := cl c7
noncomputable def c9 : Code := cl c8
noncomputable def c10 : Code := cl c9
noncomputable def o3 : Array Oper := rops c10
noncomputable def c11 : Code := cr c9
noncomputable def c12 : Code := cl c11
noncomputable def c13 : Code := cl c12
noncomputable def c14 : Code := cr c12
noncomputable def c15 : Code := cr c11
noncomputable def c16 : Code := cl c15
noncomputable def c17 : Code := cl c16
noncomputable def c18 : Code := cl c17
noncomputable def o4 : Array Oper := rops c18
noncomputable def c19 : Code := cr c17
noncomputable def c20 : Code := cl c19
noncomputable def c21 : Code := cl c20
noncomputable def o5 : Array Oper := rops c21
noncomputable def c22 : Code := cr c20
noncomputable def c23 : Code := cl c22
noncomputable def o6 : Array Oper := rops c23
noncomputable def c24 : Code := cr c22
noncomputable def c25 : Code := cl c24
noncomputable def o7 : Array Oper := rops c25
noncomputable def c26 : Code := cr c24
noncomputable def c27 : Code := cl c26
noncomputable def o8 : Array Oper := rops c27
noncomputable def c28 : Code := cr c26
noncomputable def c29 : Code := cr c15
noncomputable def o9 : Array Oper := rops c29
noncomputable def c30 : Code := cr c4
noncomputable def c31 : Code := cl c30
noncomputable def o10 : Array Oper := rops c31
noncomputable def c32 : Code := cr c30
end F41
theorem rank_ok {w₀ : World} {M : Nat → Prop} {l : List Int} {pl : Value} {i : Nat} (hl : RV w₀ M l pl) (hi : i < l.length) : Calls Try.prog 41 #[pl, .int .i64 i] w₀ (Ret fun v w' => v = .tuple #[.int .i64 (rankS l i : Int), .bool (singS l i)] ∧ w' = w₀) := by
  refine calls_start (c := F41.c0) (N := 38) [pl, .int .i64 i] Try.func41 (by kernel_rfl) (by kernel_rfl) (by kernel_rfl) ?_
  show Run _ _ _ _ [(0, pl), (1, .int .i64 i)] _ _
  refine run_seq (x := F41.c1) (y := F41.c2) (by kernel_rfl) ?_
  refine run_plain (id := 0) (ops := F41.o0) [(0, true), (1, true)] (by kernel_rfl) (by kernel_rfl) ?_
  refine yS (by kernel_rfl : opAt F41.o0 0 = some (some 4, .assign (.const (.int .i64 0)), none)) rfl rfl (fun w' hS => val_assign rfl) ?_
  refine yS (by kernel_rfl : opAt F41.o0 1 = some (some 5, .assign (.const (.bool false)), none)) rfl rfl (fun w' hS => val_assign rfl) ?_
  refine Sch.nil ?_
  refine run_seq (x := F41.c3) (y := F41.c4) (by kernel_rfl) ?_
  refine run_plain (id := 1) (ops := F41.o1) [(0, true), (1, true)] (by kernel_rfl) (by kernel_rfl) ?_
  refine yS (by kernel_rfl : opAt F41.o1 0 = some (some 6, .assign (.const (.int .i64 0)), none)) rfl rfl (fun w' hS => val_assign rfl) ?_
  refine yS (by kernel_rfl : opAt F41.o1 1 = some (some 7, .assign (.const (.int .i64 0)), none)) rfl rfl (fun w' hS => val_assign rfl) ?_
  refine Sch.nil ?_
  refine run_seq (x := F41.c5) (y := F41.c30) (by kernel_rfl) ?_
  refine run_seq (x := F41.c6) (y := F41.c7) (by kernel_rfl) ?_
  refine run_plain (id := 2) (ops := F41.o2) [(0, true), (1, true), (2, true)] (by kernel_rfl) (by kernel_rfl) ?_
  refine yS (by kernel_rfl : opAt F41.o2 0 = some (some 10, .move (.tmp 0), none)) rfl rfl (fun w' hS => val_move rfl) ?_
  refine yS (by kernel_rfl : opAt F41.o2 1 = some (some 11, .call { callee := .builtin .len, args := #[(.tmp 10)], argTypes := #[22] }, none)) rfl rfl (fun w' hS => hl.lenV rfl Try.underlying22 w' ) ?_
  refine yS (by kernel_rfl : opAt F41.o2 2 = some (some 12, .move (.const (.int .i64 0)), none)) rfl rfl (fun w' hS => val_move rfl) ?_
  refine Sch.nil ?_
  refine run_block (x := F41.c8) (id := 0) (by kernel_rfl) ?_
  
  refine run_loop (ι := Nat) (I := fun x w => x ≤ l.length ∧ w = w₀) (e := fun x => [(0, pl), (1, .int .i64 i), (6, .int .i64 (((l.take x).countP fun x => decide (gAt l i < x) : Nat) : Int)), (7, .int .i64 (((l.take x).countP fun x => decide (x = gAt l i) : Nat) : Int)), (10, pl), (11, .int .i64 l.length), (12, .int .i64 x)]) (m := fun x => l.length - x) (x₀ := 0) (body := F41.c9) (by kernel_rfl) (sub_cons 0 rfl rfl (sub_cons 1 rfl rfl (sub_cons 6 rfl rfl (sub_cons 7 rfl rfl (sub_cons 10 rfl rfl (sub_cons 11 rfl rfl (sub_cons 12 rfl rfl (sub_nil _)))))))) ?_ ?_
  · exact ⟨Nat.zero_le _, rfl⟩
  intro k w1 hI next
  obtain ⟨hk, rfl⟩ := hI
  try simp only at hk
  have next1 := next
  clear next
  show Run _ _ _ _ [(0, pl), (1, .int .i64 i), (6, .int .i64 (((l.take k).countP fun x => decide (gAt l i < x) : Nat) : Int)), (7, .int .i64 (((l.take k).countP fun x => decide (x = gAt l i) : Nat) : Int)), (10, pl), (11, .int .i64 l.length), (12, .int .i64 k)] _ _
  have hle := hl.le
  have hc1 := cnt_le (l := l) (k := k) (fun x => decide (gAt l i < x))
  have hc2 := cnt_le (l := l) (k := k) (fun x => decide (x = gAt l i))
  refine run_seq (x := F41.c10) (y := F41.c11) (by kernel_rfl) ?_
  refine run_plain (id := 3) (ops := F41.o3) [(0, true)] (by kernel_rfl) (by kernel_rfl) ?_
  refine yS (by kernel_rfl : opAt F41.o3 0 = some (some 13, .binOp .lss 3 (.tmp 12) (.tmp 11) 3, none)) rfl rfl (fun w' hS => val_lss rfl rfl) ?_
  refine Sch.nil ?_
  refine run_seq (x := F41.c12) (y := F41.c15) (by kernel_rfl) ?_
  refine run_if (x := F41.c13) (y := F41.c14) (o := .tmp 13) (by kernel_rfl) rfl (fun h13 => ?_) (fun h13 => ?_)
  · skip
    have hkl : k < l.length := by omega
    have ht1 := cnt_take hkl (fun x => decide (gAt l i < x))
    have ht2 := cnt_take hkl (fun x => decide (x = gAt l i))
    refine run_skip (by kernel_rfl) ?_
    refine run_seq (x := F41.c16) (y := F41.c29) (by kernel_rfl) ?_
    refine run_block (x := F41.c17) (id := 1) (by kernel_rfl) ?_
    refine run_seq (x := F41.c18) (y := F41.c19) (by kernel_rfl) ?_
    refine run_plain (id := 4) (ops := F41.o4) [(0, true), (1, false), (2, true)] (by kernel_rfl) (by kernel_rfl) ?_
    refine iS (e := 3) (by kernel_rfl : opAt F41.o4 0 = some (some 14, .indexAddr 22 (.tmp 10) (.tmp 12), none)) rfl rfl hl rfl (by kernel_rfl) rfl (by omega) (by omega) ?_
    intro b14 o14 h14
    try simp only [Int.toNat_natCast] at h14
    refine lN (by kernel_rfl : opAt F41.o4 1 = some (some 15, .load 3 (.tmp 14), none)) rfl rfl trivial h14 (by kernel_rfl) rfl rfl ?_
    intro v15 g15
    first | (obtain rfl := rv_nat.1 g15) | (obtain rfl := rv_int.1 g15)
    refine yS (by kernel_rfl : opAt F41.o4 2 = some (some 9, .assign (.tmp 15), none)) rfl rfl (fun w' hS => val_assign rfl) ?_
    refine Sch.nil ?_
    refine run_block (x := F41.c20) (id := 2) (by kernel_rfl) ?_
    refine run_seq (x := F41.c21) (y := F41.c22) (by kernel_rfl) ?_
    refine run_plain (id := 5) (ops := F41.o5) [(0, true), (1, true), (2, true), (3, true), (4, false), (5, true), (6, true)] (by kernel_rfl) (by kernel_rfl) ?_
    refine yS (by kernel_rfl : opAt F41.o5 0 = some (some 17, .move (.tmp 9), none)) rfl rfl (fun w' hS => val_move rfl) ?_
    refine yS (by kernel_rfl : opAt F41.o5 1 = some (some 18, .move (.tmp 0), none)) rfl rfl (fun w' hS => val_move rfl) ?_
    refine yS (by kernel_rfl : opAt F41.o5 2 = some (some 19, .move (.tmp 1), none)) rfl rfl (fun w' hS => val_move rfl) ?_
    refine iS (e := 3) (by kernel_rfl : opAt F41.o5 3 = some (some 20, .indexAddr 22 (.tmp 18) (.tmp 19), none)) rfl rfl hl rfl (by kernel_rfl) rfl (by omega) (by omega) ?_
    intro b20 o20 h20
    try simp only [Int.toNat_natCast] at h20
    refine lN (by kernel_rfl : opAt F41.o5 4 = some (some 21, .load 3 (.tmp 20), none)) rfl rfl trivial h20 (by kernel_rfl) rfl rfl ?_
    intro v21 g21
    first | (obtain rfl := rv_nat.1 g21) | (obtain rfl := rv_int.1 g21)
    refine yS (by kernel_rfl : opAt F41.o5 5 = some (some 22, .binOp .gtr 3 (.tmp 17) (.tmp 21) 3, none)) rfl rfl (fun w' hS => val_gtr rfl rfl) ?_
    refine yS (by kernel_rfl : opAt F41.o5 6 = some (some 16, .assign (.tmp 22), none)) rfl rfl (fun w' hS => val_assign rfl) ?_
    refine Sch.nil ?_
    refine run_if (x := F41.c23) (y := F41.c24) (o := .tmp 16) (by kernel_rfl) rfl (fun h16 => ?_) (fun h16 => ?_)
    · skip
      refine run_plain (id := 6) (ops := F41.o6) [(0, true), (1, true), (2, true)] (by kernel_rfl) (by kernel_rfl) ?_
      refine yS (by kernel_rfl : opAt F41.o6 0 = some (some 23, .move (.tmp 6), none)) rfl rfl (fun w' hS => val_move rfl) ?_
      refine yS (by kernel_rfl : opAt F41.o6 1 = some (some 24, .binOp .add 3 (.tmp 23) (.const (.int .i64 1)) 3, none)) rfl rfl (fun w' hS => val_addi rfl rfl (by omega) (by omega)) ?_
      refine yS (by kernel_rfl : opAt F41.o6 2 = some (some 6, .assign (.tmp 24), none)) rfl rfl (fun w' hS => val_assign rfl) ?_
      refine Sch.nil ?_
      refine run_inBlock ?_
      refine run_inBlock ?_
      refine run_plain (id := 9) (ops := F41.o9) [(0, true), (1, true)] (by kernel_rfl) (by kernel_rfl) ?_
      refine yS (by kernel_rfl : opAt F41.o9 0 = some (some 34, .binOp .add 3 (.tmp 12) (.const (.int .i64 1)) 3, none)) rfl rfl (fun w' hS => val_addi rfl rfl (by omega) (by omega)) ?_
      refine yS (by kernel_rfl : opAt F41.o9 1 = some (some 12, .move (.tmp 34), none)) rfl rfl (fun w' hS => val_move rfl) ?_
      refine Sch.nil ?_
      refine kp (sub_cons 0 rfl rfl (sub_cons 1 rfl rfl (sub_cons 6 rfl (eq_int (by rw [ht1, if_pos (decide_eq_true (by rw [gAt_in hi]; omega))])) (sub_cons 7 rfl (eq_int (by rw [ht2, if_neg (fun e => by have := of_decide_eq_true e; rw [gAt_in hi] at this; omega)]; omega)) (sub_cons 10 rfl rfl (sub_cons 11 rfl rfl (sub_cons 12 rfl (eq_int (by simp)) (sub_nil _)))))))) (next1 (k + 1) _ ⟨(by first | omega | (simp only; omega)), rfl⟩ (by first | omega | (simp only; omega)))
    · skip
      refine run_seq (x := F41.c25) (y := F41.c26) (by kernel_rfl) ?_
      refine run_plain (id := 7) (ops := F41.o7) [(0, true), (1, true), (2, true), (3, true), (4, false), (5, true), (6, true)] (by kernel_rfl) (by kernel_rfl) ?_
      refine yS (by kernel_rfl : opAt F41.o7 0 = some (some 26, .move (.tmp 9), none)) rfl rfl (fun w' hS => val_move rfl) ?_
      refine yS (by kernel_rfl : opAt F41.o7 1 = some (some 27, .move (.tmp 0), none)) rfl rfl (fun w' hS => val_move rfl) ?_
      refine yS (by kernel_rfl : opAt F41.o7 2 = some (some 28, .move (.tmp 1), none)) rfl rfl (fun w' hS => val_move rfl) ?_
      refine iS (e := 3) (by kernel_rfl : opAt F41.o7 3 = some (some 29, .indexAddr 22 (.tmp 27) (.tmp 28), none)) rfl rfl hl rfl (by kernel_rfl) rfl (by omega) (by omega) ?_
      intro b29 o29 h29
      try simp only [Int.toNat_natCast] at h29
      refine lN (by kernel_rfl : opAt F41.o7 4 = some (some 30, .load 3 (.tmp 29), none)) rfl rfl trivial h29 (by kernel_rfl) rfl rfl ?_
      intro v30 g30
      first | (obtain rfl := rv_nat.1 g30) | (obtain rfl := rv_int.1 g30)
      refine yS (by kernel_rfl : opAt F41.o7 5 = some (some 31, .binOp .eql 3 (.tmp 26) (.tmp 30) 3, none)) rfl rfl (fun w' hS => val_eql rfl rfl) ?_
      refine yS (by kernel_rfl : opAt F41.o7 6 = some (some 25, .assign (.tmp 31), none)) rfl rfl (fun w' hS => val_assign rfl) ?_
      refine Sch.nil ?_
      refine run_if (x := F41.c27) (y := F41.c28) (o := .tmp 25) (by kernel_rfl) rfl (fun h25 => ?_) (fun h25 => ?_)
      · skip
        refine run_plain (id := 8) (ops := F41.o8) [(0, true), (1, true), (2, true)] (by kernel_rfl) (by kernel_rfl) ?_
        refine yS (by kernel_rfl : opAt F41.o8 0 = some (some 32, .move (.tmp 7), none)) rfl rfl (fun w' hS => val_move rfl) ?_
        refine yS (by kernel_rfl : opAt F41.o8 1 = some (some 33, .binOp .add 3 (.tmp 32) (.const (.int .i64 1)) 3, none)) rfl rfl (fun w' hS => val_addi rfl rfl (by omega) (by omega)) ?_
        refine yS (by kernel_rfl : opAt F41.o8 2 = some (some 7, .assign (.tmp 33), none)) rfl rfl (fun w' hS => val_assign rfl) ?_
        refine Sch.nil ?_
        refine run_inBlock ?_
        refine run_inBlock ?_
        refine run_plain (id := 9) (ops := F41.o9) [(0, true), (1, true)] (by kernel_rfl) (by kernel_rfl) ?_
        refine yS (by kernel_rfl : opAt F41.o9 0 = some (some 34, .binOp .add 3 (.tmp 12) (.const (.int .i64 1)) 3, none)) rfl rfl (fun w' hS => val_addi rfl rfl (by omega) (by omega)) ?_
        refine yS (by kernel_rfl : opAt F41.o9 1 = some (some 12, .move (.tmp 34), none)) rfl rfl (fun w' hS => val_move rfl) ?_
        refine Sch.nil ?_
        refine kp (sub_cons 0 rfl rfl (sub_cons 1 rfl rfl (sub_cons 6 rfl (eq_int (by rw [ht1, if_neg (fun e => by have := of_decide_eq_true e; rw [gAt_in hi] at this; omega)]; omega)) (sub_cons 7 rfl (eq_int (by rw [ht2, if_pos (decide_eq_true (by rw [gAt_in hi]; omega))])) (sub_cons 10 rfl rfl (sub_cons 11 rfl rfl (sub_cons 12 rfl (eq_int (by simp)) (sub_nil _)))))))) (next1 (k + 1) _ ⟨(by first | omega | (simp only; omega)), rfl⟩ (by first | omega | (simp only; omega)))
      · skip
        refine run_skip (by kernel_rfl) ?_
        refine run_inBlock ?_
        refine run_inBlock ?_
        refine run_plain (id := 9) (ops := F41.o9) [(0, true), (1, true)] (by kernel_rfl) (by kernel_rfl) ?_
        refine yS (by kernel_rfl : opAt F41.o9 0 = some (some 34, .binOp .add 3 (.tmp 12) (.const (.int .i64 1)) 3, none)) rfl rfl (fun w' hS => val_addi rfl rfl (by omega) (by omega)) ?_
        refine yS (by kernel_rfl : opAt F41.o9 1 = some (some 12, .move (.tmp 34), none)) rfl rfl (fun w' hS => val_move rfl) ?_
        refine Sch.nil ?_
        refine kp (sub_cons 0 rfl rfl (sub_cons 1 rfl rfl (sub_cons 6 rfl (eq_int (by rw [ht1, if_neg (fun e => by have := of_decide_eq_true e; rw [gAt_in hi] at this; omega)]; omega)) (sub_cons 7 rfl (eq_int (by rw [ht2, if_neg (fun e => by have := of_decide_eq_true e; rw [gAt_in hi] at this; omega)]; omega)) (sub_cons 10 rfl rfl (sub_cons 11 rfl rfl (sub_cons 12 rfl (eq_int (by simp)) (sub_nil _)))))))) (next1 (k + 1) _ ⟨(by first | omega | (simp only; omega)), rfl⟩ (by first | omega | (simp only; omega)))
  · skip
    have hkl : k = l.length := by omega
    rw [hkl, rank_all]
    refine run_exit (id := 0) (by kernel_rfl) rfl ?_
    refine run_seq (x := F41.c31) (y := F41.c32) (by kernel_rfl) ?_
    refine run_plain (id := 10) (ops := F41.o10) [(0, true), (1, true), (2, true), (3, true), (4, true)] (by kernel_rfl) (by kernel_rfl) ?_
    refine yS (by kernel_rfl : opAt F41.o10 0 = some (some 35, .move (.tmp 6), none)) rfl rfl (fun w' hS => val_move rfl) ?_
    refine yS (by kernel_rfl : opAt F41.o10 1 = some (some 36, .move (.tmp 7), none)) rfl rfl (fun w' hS => val_move rfl) ?_
    refine yS (by kernel_rfl : opAt F41.o10 2 = some (some 37, .binOp .eql 3 (.tmp 36) (.const (.int .i64 1)) 3, none)) rfl rfl (fun w' hS => val_eql rfl rfl) ?_
    refine yS (by kernel_rfl : opAt F41.o10 3 = some (some 4, .assign (.tmp 35), none)) rfl rfl (fun w' hS => val_assign rfl) ?_
    refine yS (by kernel_rfl : opAt F41.o10 4 = some (some 5, .assign (.tmp 37), none)) rfl rfl (fun w' hS => val_assign rfl) ?_
    refine Sch.nil ?_
    refine run_ret2 (by kernel_rfl) Try.func41 Try.results41 rfl rfl ?_
    exact ⟨by rw [sing_all], rfl⟩
namespace F42
noncomputable def c0 : Code := bodyOf Try.f42
noncomputable def c1 : Code := cl c0
noncomputable def o0 : Array Oper := rops c1
noncomputable def c2 : Code := cr c0
noncomputable def c3 : Code := cl c2
noncomputable def o1 : Array Oper := rops c3
noncomputable def c4 : Code := cr c2
noncomputable def c5 : Code := cl c4
noncomputable def c6 : Code := cl c5
noncomputable def o2 : Array Oper := rops c6
noncomputable def c7 : Code := cr c5
noncomputable def c8 : Code := cl c7
noncomputable def c9 : Code := cl c8
noncomputable def c10 : Code := cl c9
noncomputable def o3 : Array Oper := rops c10
noncomputable def c11 : Code := cr c9
noncomputable def c12 : Code := cl c11
noncomputable def c13 : Code := cl c12
noncomputable def c14 : Code := cr c12
noncomputable def c15 : Code := cr c11
noncomputable def c16 : Code := cl c15
noncomputable def c17 : Code := cl c16
noncomputable def c18 : Code := cl c17
noncomputable def o4 : Array Oper := rops c18
noncomputable def c19 : Code := cr c17
noncomputable def o5 : Array Oper := rops c19
noncomputable def c20 : Code := cr c15
noncomputable def o6 : Array Oper := rops c20
noncomputable def c21 : Code := cr c4
noncomputable def c22 : Code := cl c21
noncomputable def o7 : Array Oper := rops c22
noncomputable def c23 : Code := cr c21
end F42
theorem sizes_ok {w₀ : World} {C : Nat → Nat} {gs : List Grp} {vg : Value} (hF : Lim w₀ C) (hg : RV w₀ (Mc C) gs vg) (hlen : gs.length ≤ 1000) : Calls Try.prog 42 #[vg] w₀ (Ret fun v w' => Stp [] w₀ C w' C ∧ RV w' (Mc C) (sizesS gs) v) := by
  have hF0 := hF
  have hT := Stp.refl [2, 3, 4, 5, 6, 7, 8, 9] w₀ (col1 C)
  replace hF := hF.col1
  replace hg : RV w₀ (Mc (col1 C)) gs vg := by rw [Mc_col1]; exact hg
  refine calls_start (c := F42.c0) (N := 20) [vg] Try.func42 (by kernel_rfl) (by kernel_rfl) (by kernel_rfl) ?_
  show Run _ _ _ _ [(0, vg)] _ _
  refine run_seq (x := F42.c1) (y := F42.c2) (by kernel_rfl) ?_
  refine run_plain (id := 0) (ops := F42.o0) [(0, true)] (by kernel_rfl) (by kernel_rfl) ?_
  refine yS (by kernel_rfl : opAt F42.o0 0 = some (some 2, .assign (.const (.slice none 0 0)), none)) rfl rfl (fun w' hS => val_assign rfl) ?_
  refine Sch.nil ?_
  refine run_seq (x := F42.c3) (y := F42.c4) (by kernel_rfl) ?_
  refine run_plain (id := 1) (ops := F42.o1) [(0, true)] (by kernel_rfl) (by kernel_rfl) ?_
  refine yS (by kernel_rfl : opAt F42.o1 0 = some (some 3, .assign (.const (.slice none 0 0)), none)) rfl rfl (fun w' hS => val_assign rfl) ?_
  refine Sch.nil ?_
  refine run_seq (x := F42.c5) (y := F42.c21) (by kernel_rfl) ?_
  refine run_seq (x := F42.c6) (y := F42.c7) (by kernel_rfl) ?_
  refine run_plain (id := 2) (ops := F42.o2) [(0, true), (1, true), (2, true)] (by kernel_rfl) (by kernel_rfl) ?_
  refine yS (by kernel_rfl : opAt F42.o2 0 = some (some 6, .move (.tmp 0), none)) rfl rfl (fun w' hS => val_move rfl) ?_
  refine yS (by kernel_rfl : opAt F42.o2 1 = some (some 7, .call { callee := .builtin .len, args := #[(.tmp 6)], argTypes := #[29] }, none)) rfl rfl (fun w' hS => hg.lenV rfl Try.underlying29 w' ) ?_
  refine yS (by kernel_rfl : opAt F42.o2 2 = some (some 8, .move (.const (.int .i64 0)), none)) rfl rfl (fun w' hS => val_move rfl) ?_
  refine Sch.nil ?_
  refine run_block (x := F42.c8) (id := 0) (by kernel_rfl) ?_
  
  refine run_loop (ι := Nat × Value × (Nat → Nat)) (I := fun x w => x.1 ≤ gs.length ∧ Lim w x.2.2 ∧ Stp [2, 3, 4, 5, 6, 7, 8, 9] w₀ (col1 C) w x.2.2 ∧ RV w (Mc x.2.2) gs vg ∧ OwnL w x.2.2 3 3 x.2.1 (sizesS (gs.take x.1))) (e := fun x => [(3, x.2.1), (6, vg), (7, .int .i64 gs.length), (8, .int .i64 x.1)]) (m := fun x => gs.length - x.1) (x₀ := (0, .slice none 0 0, col1 C)) (body := F42.c9) (by kernel_rfl) (sub_cons 3 rfl rfl (sub_cons 6 rfl rfl (sub_cons 7 rfl rfl (sub_cons 8 rfl rfl (sub_nil _))))) ?_ ?_
  · exact ⟨Nat.zero_le _, hF, hT, hg, OwnL.nil⟩
  intro ⟨k, vt, C1⟩ w1 hI next
  obtain ⟨hk, hF, hT, hg, ht⟩ := hI
  try simp only at hk hF hT hg ht
  have next1 := next
  clear next
  show Run _ _ _ _ [(3, vt), (6, vg), (7, .int .i64 gs.length), (8, .int .i64 k)] _ _
  have hle := hg.le
  have hsl := sizesS_len (gs.take k)
  rw [List.length_take] at hsl
  refine run_seq (x := F42.c10) (y := F42.c11) (by kernel_rfl) ?_
  refine run_plain (id := 3) (ops := F42.o3) [(0, true)] (by kernel_rfl) (by kernel_rfl) ?_
  refine yS (by kernel_rfl : opAt F42.o3 0 = some (some 9, .binOp .lss 3 (.tmp 8) (.tmp 7) 3, none)) rfl rfl (fun w' hS => val_lss rfl rfl) ?_
  refine Sch.nil ?_
  refine run_seq (x := F42.c12) (y := F42.c15) (by kernel_rfl) ?_
  refine run_if (x := F42.c13) (y := F42.c14) (o := .tmp 9) (by kernel_rfl) rfl (fun h9 => ?_) (fun h9 => ?_)
  · skip
    have hkl : k < gs.length := by omega
    have htk := sizesS_take hkl
    refine run_skip (by kernel_rfl) ?_
    refine run_seq (x := F42.c16) (y := F42.c20) (by kernel_rfl) ?_
    refine run_block (x := F42.c17) (id := 1) (by kernel_rfl) ?_
    refine run_seq (x := F42.c18) (y := F42.c19) (by kernel_rfl) ?_
    refine run_plain (id := 4) (ops := F42.o4) [(0, true), (1, false), (2, false), (3, false)] (by kernel_rfl) (by kernel_rfl) ?_
    refine iS (e := 35) (by kernel_rfl : opAt F42.o4 0 = some (some 10, .indexAddr 29 (.tmp 6) (.tmp 8), none)) rfl rfl hg rfl (by kernel_rfl) rfl (by omega) (by omega) ?_
    intro b10 o10 h10
    try simp only [Int.toNat_natCast] at h10
    refine lNA (by kernel_rfl : opAt F42.o4 1 = some (some 11, .load 35 (.tmp 10), none)) rfl rfl trivial h10 (by kernel_rfl) (by kernel_rfl) rfl rfl ?_
    intro v11 g11
    obtain ⟨u, m, rfl, hwx, hmx⟩ := rv_grp.1 g11
    clear g11
    refine aS (by kernel_rfl : opAt F42.o4 2 = some (some 5, .alloc 35, none)) rfl rfl (a_alloc (cs := [.int .i64 0, .slice none 0 0, .slice none 0 0]) hF 5 (by kernel_rfl)) ?_
    rintro _ w2 ⟨Cw2, bw2, rfl, hs, hb, hF⟩
    refine ⟨trivial, ?_⟩
    replace hT := hT.trans hs (by simp)
    replace hg := hg.st hs (by first | decide | (simp <;> omega))
    replace ht := ht.st hs (by first | decide | (simp <;> omega)) (by first | decide | (simp <;> omega))
    replace h10 := h10.st hs (by first | decide | (simp <;> omega))
    replace hwx := hwx.st hs (by first | decide | (simp <;> omega))
    replace hmx := hmx.st hs (by first | decide | (simp <;> omega))
    refine aN (by kernel_rfl : opAt F42.o4 3 = some (none, .store 35 (.tmp 5) (.tmp 11), none)) rfl (a_storeAll (vs := [.int .i64 (gs[k]'hkl).arr.len, u, m]) (n := 3) rfl rfl (by kernel_rfl) rfl rfl (by intro z hz; simp only [List.mem_cons, List.not_mem_nil, or_false] at hz; rcases hz with rfl | rfl | rfl <;> first | rfl | exact (hwx.one rfl).2 | exact (hmx.one rfl).2) hb rfl) ?_
    rintro _ w3 ⟨rfl, hs, hb⟩
    refine ⟨trivial, ?_⟩
    replace hF := hF.st hs
    replace hT := hT.trans hs (by simp)
    replace hg := hg.st hs (by first | decide | (simp <;> omega))
    replace ht := ht.st hs (by first | decide | (simp <;> omega)) (by first | decide | (simp <;> omega))
    replace h10 := h10.st hs (by first | decide | (simp <;> omega))
    replace hwx := hwx.st hs (by first | decide | (simp <;> omega))
    replace hmx := hmx.st hs (by first | decide | (simp <;> omega))
    refine Sch.nil ?_
    refine run_plain (id := 5) (ops := F42.o5) [(0, true), (1, true), (2, false), (3, true), (4, false), (5, false), (6, true)] (by kernel_rfl) (by kernel_rfl) ?_
    refine yS (by kernel_rfl : opAt F42.o5 0 = some (some 12, .move (.tmp 3), none)) rfl rfl (fun w' hS => val_move rfl) ?_
    refine yS (by kernel_rfl : opAt F42.o5 1 = some (some 13, .fieldAddr 35 (.tmp 5) 1, none)) rfl rfl (fun w' hS => val_fieldAddr (off := 2) (by kernel_rfl) rfl) ?_
    refine nS (by kernel_rfl : opAt F42.o5 2 = some (some 14, .load 22 (.tmp 13), none)) rfl rfl trivial (val_loadOwn hb.at_ (by kernel_rfl) rfl rfl) ?_
    refine yS (by kernel_rfl : opAt F42.o5 3 = some (some 15, .call { callee := .builtin .len, args := #[(.tmp 14)], argTypes := #[22] }, none)) rfl rfl (fun w' hS => hmx.lenV rfl Try.underlying22 w' ) ?_
    refine aS (by kernel_rfl : opAt F42.o5 4 = some (some 16, .buildSlice 22 1 #[(0, (.tmp 15))], none)) rfl rfl (a_buildSlice (ys := ([((gs[k]'hkl).mem.length : Int)] : List Int)) (e := 3) (bytes := 8) hF (by kernel_rfl) rfl (by decide) (by decide) ⟨rfl, ⟨_, rfl, rv_int.2 rfl⟩, trivial⟩) ?_
    rintro v16 w4 ⟨hs, g16, hF⟩
    refine ⟨trivial, ?_⟩
    replace hT := hT.trans hs (by simp)
    replace hg := hg.st hs (by first | decide | (simp <;> omega))
    replace ht := ht.st hs (by first | decide | (simp <;> omega)) (by first | decide | (simp <;> omega))
    replace h10 := h10.st hs (by first | decide | (simp <;> omega))
    replace hwx := hwx.st hs (by first | decide | (simp <;> omega))
    replace hmx := hmx.st hs (by first | decide | (simp <;> omega))
    replace hb := hb.st hs (by first | decide | (simp <;> omega))
    refine aS (by kernel_rfl : opAt F42.o5 5 = some (some 17, .call { callee := .builtin .append, args := #[(.tmp 12), (.tmp 16)], argTypes := #[22, 22] }, none)) rfl rfl (a_append (e := 3) (bytes := 8) hF (by decide) rfl rfl (by kernel_rfl) (by decide) ht g16 (by simp only [List.length_cons, List.length_nil, List.length_take]; omega) (by simp only [List.length_cons, List.length_nil, List.length_take]; omega)) ?_
    rintro v17 w5 ⟨Cw5, hs, ht, hF⟩
    refine ⟨trivial, ?_⟩
    replace hT := hT.trans hs (by simp)
    replace hg := hg.st hs (by first | decide | (simp <;> omega))
    replace h10 := h10.st hs (by first | decide | (simp <;> omega))
    replace hwx := hwx.st hs (by first | decide | (simp <;> omega))
    replace hmx := hmx.st hs (by first | decide | (simp <;> omega))
    replace hb := hb.st hs (by first | decide | (simp <;> omega))
    replace g16 := g16.st hs (by first | decide | (simp <;> omega))
    refine yS (by kernel_rfl : opAt F42.o5 6 = some (some 3, .assign (.tmp 17), none)) rfl rfl (fun w' hS => val_assign rfl) ?_
    refine Sch.nil ?_
    refine run_inBlock ?_
    refine run_plain (id := 6) (ops := F42.o6) [(0, true), (1, true)] (by kernel_rfl) (by kernel_rfl) ?_
    refine yS (by kernel_rfl : opAt F42.o6 0 = some (some 18, .binOp .add 3 (.tmp 8) (.const (.int .i64 1)) 3, none)) rfl rfl (fun w' hS => val_addi rfl rfl (by omega) (by omega)) ?_
    refine yS (by kernel_rfl : opAt F42.o6 1 = some (some 8, .move (.tmp 18), none)) rfl rfl (fun w' hS => val_move rfl) ?_
    refine Sch.nil ?_
    refine kp (sub_cons 3 rfl rfl (sub_cons 6 rfl rfl (sub_cons 7 rfl rfl (sub_cons 8 rfl (eq_int (by simp)) (sub_nil _))))) (next1 (k + 1, v17, Cw5) _ ⟨(by first | omega | (simp only; omega)), hF, hT, hg, (by simp only; rw [htk]; exact ht)⟩ (by first | omega | (simp only; omega)))
  · skip
    have hkl : k = gs.length := by omega
    rw [hkl, List.take_length] at ht hsl
    refine run_exit (id := 0) (by kernel_rfl) rfl ?_
    refine run_seq (x := F42.c22) (y := F42.c23) (by kernel_rfl) ?_
    refine run_plain (id := 7) (ops := F42.o7) [(0, true), (1, true)] (by kernel_rfl) (by kernel_rfl) ?_
    refine yS (by kernel_rfl : opAt F42.o7 0 = some (some 19, .move (.tmp 3), none)) rfl rfl (fun w' hS => val_move rfl) ?_
    refine yS (by kernel_rfl : opAt F42.o7 1 = some (some 2, .assign (.tmp 19), none)) rfl rfl (fun w' hS => val_assign rfl) ?_
    refine Sch.nil ?_
    refine run_ret1 (by kernel_rfl) Try.func42 Try.results42 rfl ?_
    exact ⟨hT.out1 (by decide), ht.out hT hF0 (Mc_col1 C) (fun b _ => col1_lt C (by decide) b) (by omega)⟩
namespace F20
noncomputable def c0 : Code := bodyOf Try.f20
noncomputable def c1 : Code := cl c0
noncomputable def o0 : Array Oper := rops c1
noncomputable def c2 : Code := cr c0
noncomputable def c3 : Code := cl c2
noncomputable def o1 : Array Oper := rops c3
noncomputable def c4 : Code := cr c2
noncomputable def c5 : Code := cl c4
noncomputable def o2 : Array Oper := rops c5
noncomputable def c6 : Code := cr c4
noncomputable def c7 : Code := cl c6
noncomputable def c8 : Code := cl c7
noncomputable def o3 : Array Oper := rops c8
noncomputable def c9 : Code := cr c7
noncomputable def c10 : Code := cl c9
noncomputable def c11 : Code := cl c10
noncomputable def c12 : Code := cl c11
noncomputable def o4 : Array Oper := rops c12
noncomputable def c13 : Code := cr c11
noncomputable def c14 : Code := cl c13
noncomputable def c15 : Code := cl c14
noncomputable def c16 : Code := cr c14
noncomputable def c17 : Code := cr c13
noncomputable def c18 : Code := cl c17
noncomputable def c19 : Code := cl c18
noncomputable def c20 : Code := cl c19
noncomputable def o5 : Array Oper := rops c20
noncomputable def c21 : Code := cr c19
noncomputable def c22 : Code := cl c21
noncomputable def o6 : Array Oper := rops c22
noncomputable def c23 : Code := cr c21
noncomputable def c24 : Code := cl c23
noncomputable def o7 : Array Oper := rops c24
noncomputable def c25 : Code := cr c23
noncomputable def c26 : Code := cl c25
noncomputable def o8 : Array Oper := rops c26
noncomputable def c27 : Code := cr c25
noncomputable def c28 : Code := cr c17
noncomputable def o9 : Array Oper := rops c28
noncomputable def c29 : Code := cr c6
noncomputable def c30 : Code := cl c29
noncomputable def o10 : Array Oper := rops c30
noncomputable def c31 : Code := cr c29
end F20
theorem singular_ok {w₀ : World} {C : Nat → Nat} {gs : List Grp} {vg : Value} (hF : Lim w₀ C) (hg : RV w₀ (Mc C) gs vg) (hlen : gs.length ≤ 1000) (hmem : ∀ g ∈ gs, g.mem.length ≤ 1000000) : Calls Try.prog 20 #[vg] w₀ (Ret fun v w' => v = .int .i64 (sngS (sizesS gs) (sizesS gs).length) ∧ Stp [] w₀ C w' C) := by
  have hF0 := hF
  have hT := Stp.refl [2, 3, 4, 5, 6, 7, 8, 9] w₀ (col1 C)
  replace hF := hF.col1
  replace hg : RV w₀ (Mc (col1 C)) gs vg := by rw [Mc_col1]; exact hg
  refine calls_start (c := F20.c0) (N := 30) [vg] Try.func20 (by kernel_rfl) (by kernel_rfl) (by kernel_rfl) ?_
  show Run _ _ _ _ [(0, vg)] _ _
  refine run_seq (x := F20.c1) (y := F20.c2) (by kernel_rfl) ?_
  refine run_plain (id := 0) (ops := F20.o0) [(0, true)] (by kernel_rfl) (by kernel_rfl) ?_
  refine yS (by kernel_rfl : opAt F20.o0 0 = some (some 2, .assign (.const (.int .i64 0)), none)) rfl rfl (fun w' hS => val_assign rfl) ?_
  refine Sch.nil ?_
  refine run_seq (x := F20.c3) (y := F20.c4) (by kernel_rfl) ?_
  refine run_plain (id := 1) (ops := F20.o1) [(0, true)] (by kernel_rfl) (by kernel_rfl) ?_
  refine yS (by kernel_rfl : opAt F20.o1 0 = some (some 3, .assign (.const (.int .i64 0)), none)) rfl rfl (fun w' hS => val_assign rfl) ?_
  refine Sch.nil ?_
  refine run_seq (x := F20.c5) (y := F20.c6) (by kernel_rfl) ?_
  refine run_plain (id := 2) (ops := F20.o2) [(0, true), (1, false), (2, true)] (by kernel_rfl) (by kernel_rfl) ?_
  refine yS (by kernel_rfl : opAt F20.o2 0 = some (some 9, .move (.tmp 0), none)) rfl rfl (fun w' hS => val_move rfl) ?_
  refine cS (by kernel_rfl : opAt F20.o2 1 = some (some 10, .call { callee := .value (.func 42), args := #[(.tmp 9)], argTypes := #[29] }, none)) rfl rfl (ent Try.call42 rfl) (sizes_ok hF hg hlen) ?_
  rintro vz w1 ⟨hs, hsz⟩
  refine ⟨trivial, ?_⟩
  replace hF := hF.st hs
  replace hT := hT.trans hs (by simp)
  replace hg := hg.st hs (by first | decide | (simp <;> omega))
  refine yS (by kernel_rfl : opAt F20.o2 2 = some (some 4, .assign (.tmp 10), none)) rfl rfl (fun w' hS => val_assign rfl) ?_
  refine Sch.nil ?_
  have hszl := sizesS_len gs
  obtain ⟨sz, hsd⟩ : ∃ x, x = sizesS gs := ⟨_, rfl⟩
  rw [← hsd] at hsz hszl
  have hzb : ∀ x ∈ sz, 0 ≤ x ∧ x ≤ 1000000 := fun x hx => by
    rw [hsd] at hx; obtain ⟨g, hg, rfl⟩ := List.mem_map.1 hx
    have := hmem g hg; omega
  refine run_seq (x := F20.c7) (y := F20.c29) (by kernel_rfl) ?_
  refine run_seq (x := F20.c8) (y := F20.c9) (by kernel_rfl) ?_
  refine run_plain (id := 3) (ops := F20.o3) [(0, true), (1, true), (2, true)] (by kernel_rfl) (by kernel_rfl) ?_
  refine yS (by kernel_rfl : opAt F20.o3 0 = some (some 11, .move (.tmp 4), none)) rfl rfl (fun w' hS => val_move rfl) ?_
  refine yS (by kernel_rfl : opAt F20.o3 1 = some (some 12, .call { callee := .builtin .len, args := #[(.tmp 11)], argTypes := #[22] }, none)) rfl rfl (fun w' hS => hsz.lenV rfl Try.underlying22 w' ) ?_
  refine yS (by kernel_rfl : opAt F20.o3 2 = some (some 13, .move (.const (.int .i64 0)), none)) rfl rfl (fun w' hS => val_move rfl) ?_
  refine Sch.nil ?_
  refine run_block (x := F20.c10) (id := 0) (by kernel_rfl) ?_
  
  refine run_loop (ι := Nat × (Nat → Nat)) (I := fun x w => x.1 ≤ sz.length ∧ Lim w x.2 ∧ Stp [2, 3, 4, 5, 6, 7, 8, 9] w₀ (col1 C) w x.2 ∧ RV w (Mc x.2) sz vz) (e := fun x => [(3, .int .i64 (sngS sz x.1)), (4, vz), (11, vz), (12, .int .i64 sz.length), (13, .int .i64 x.1)]) (m := fun x => sz.length - x.1) (x₀ := (0, col1 C)) (body := F20.c11) (by kernel_rfl) (sub_cons 3 rfl rfl (sub_cons 4 rfl rfl (sub_cons 11 rfl rfl (sub_cons 12 rfl rfl (sub_cons 13 rfl rfl (sub_nil _)))))) ?_ ?_
  · exact ⟨Nat.zero_le _, hF, hT, hsz⟩
  intro ⟨k, C1⟩ w2 hI next
  obtain ⟨hk, hF, hT, hsz⟩ := hI
  try simp only at hk hF hT hsz
  have next1 := next
  clear next
  show Run _ _ _ _ [(3, .int .i64 (sngS sz k)), (4, vz), (11, vz), (12, .int .i64 sz.length), (13, .int .i64 k)] _ _
  have hsb := sngS_bnd hzb (by decide) k hk
  refine run_seq (x := F20.c12) (y := F20.c13) (by kernel_rfl) ?_
  refine run_plain (id := 4) (ops := F20.o4) [(0, true)] (by kernel_rfl) (by kernel_rfl) ?_
  refine yS (by kernel_rfl : opAt F20.o4 0 = some (some 14, .binOp .lss 3 (.tmp 13) (.tmp 12) 3, none)) rfl rfl (fun w' hS => val_lss rfl rfl) ?_
  refine Sch.nil ?_
  refine run_seq (x := F20.c14) (y := F20.c17) (by kernel_rfl) ?_
  refine run_if (x := F20.c15) (y := F20.c16) (o := .tmp 14) (by kernel_rfl) rfl (fun h14 => ?_) (fun h14 => ?_)
  · skip
    have hkl : k < sz.length := by omega
    have hxb := hzb _ (List.getElem_mem hkl)
    refine run_skip (by kernel_rfl) ?_
    refine run_seq (x := F20.c18) (y := F20.c28) (by kernel_rfl) ?_
    refine run_block (x := F20.c19) (id := 1) (by kernel_rfl) ?_
    refine run_seq (x := F20.c20) (y := F20.c21) (by kernel_rfl) ?_
    refine run_plain (id := 5) (ops := F20.o5) [(0, true), (1, true), (2, false), (3, true), (4, true)] (by kernel_rfl) (by kernel_rfl) ?_
    refine yS (by kernel_rfl : opAt F20.o5 0 = some (some 15, .move (.tmp 13), none)) rfl rfl (fun w' hS => val_move rfl) ?_
    refine iS (e := 3) (by kernel_rfl : opAt F20.o5 1 = some (some 16, .indexAddr 22 (.tmp 11) (.tmp 13), none)) rfl rfl hsz rfl (by kernel_rfl) rfl (by omega) (by omega) ?_
    intro b16 o16 h16
    try simp only [Int.toNat_natCast] at h16
    refine lN (by kernel_rfl : opAt F20.o5 2 = some (some 17, .load 3 (.tmp 16), none)) rfl rfl trivial h16 (by kernel_rfl) rfl rfl ?_
    intro v17 g17
    first | (obtain rfl := rv_nat.1 g17) | (obtain rfl := rv_int.1 g17)
    refine yS (by kernel_rfl : opAt F20.o5 3 = some (some 5, .assign (.tmp 15), none)) rfl rfl (fun w' hS => val_assign rfl) ?_
    refine yS (by kernel_rfl : opAt F20.o5 4 = some (some 6, .assign (.tmp 17), none)) rfl rfl (fun w' hS => val_assign rfl) ?_
    refine Sch.nil ?_
    refine run_seq (x := F20.c22) (y := F20.c23) (by kernel_rfl) ?_
    refine run_plain (id := 6) (ops := F20.o6) [(0, true), (1, true), (2, false), (3, true), (4, true), (5, true), (6, true), (7, true)] (by kernel_rfl) (by kernel_rfl) ?_
    refine yS (by kernel_rfl : opAt F20.o6 0 = some (some 19, .move (.tmp 4), none)) rfl rfl (fun w' hS => val_move rfl) ?_
    refine yS (by kernel_rfl : opAt F20.o6 1 = some (some 20, .move (.tmp 5), none)) rfl rfl (fun w' hS => val_move rfl) ?_
    refine cS (by kernel_rfl : opAt F20.o6 2 = some (some 21, .call { callee := .value (.func 41), args := #[(.tmp 19), (.tmp 20)], argTypes := #[22, 3] }, none)) rfl rfl (ent Try.call41 rfl) (rank_ok (i := k) hsz hkl) ?_
    rintro vw3 w3 ⟨rfl, rfl⟩
    refine ⟨trivial, ?_⟩
    refine yS (by kernel_rfl : opAt F20.o6 3 = some (some 18, .move (.tmp 21), none)) rfl rfl (fun w' hS => val_move rfl) ?_
    refine yS (by kernel_rfl : opAt F20.o6 4 = some (some 22, .extract (.tmp 18) 0, none)) rfl rfl (fun w' hS => val_extract rfl rfl) ?_
    refine yS (by kernel_rfl : opAt F20.o6 5 = some (some 23, .extract (.tmp 18) 1, none)) rfl rfl (fun w' hS => val_extract rfl rfl) ?_
    refine yS (by kernel_rfl : opAt F20.o6 6 = some (some 7, .assign (.tmp 22), none)) rfl rfl (fun w' hS => val_assign rfl) ?_
    refine yS (by kernel_rfl : opAt F20.o6 7 = some (some 8, .assign (.tmp 23), none)) rfl rfl (fun w' hS => val_assign rfl) ?_
    refine Sch.nil ?_
    refine run_seq (x := F20.c24) (y := F20.c25) (by kernel_rfl) ?_
    refine run_plain (id := 7) (ops := F20.o7) [(0, true)] (by kernel_rfl) (by kernel_rfl) ?_
    refine yS (by kernel_rfl : opAt F20.o7 0 = some (some 24, .move (.tmp 8), none)) rfl rfl (fun w' hS => val_move rfl) ?_
    refine Sch.nil ?_
    refine run_cond (x := F20.c26) (y := F20.c27) (o := .tmp 24) (by kernel_rfl) rfl (fun h24 => ?_) (fun h24 => ?_)
    · skip
      refine run_plain (id := 8) (ops := F20.o8) [(0, true), (1, true), (2, true), (3, true)] (by kernel_rfl) (by kernel_rfl) ?_
      refine yS (by kernel_rfl : opAt F20.o8 0 = some (some 25, .move (.tmp 3), none)) rfl rfl (fun w' hS => val_move rfl) ?_
      refine yS (by kernel_rfl : opAt F20.o8 1 = some (some 26, .move (.tmp 6), none)) rfl rfl (fun w' hS => val_move rfl) ?_
      refine yS (by kernel_rfl : opAt F20.o8 2 = some (some 27, .binOp .add 3 (.tmp 25) (.tmp 26) 3, none)) rfl rfl (fun w' hS => val_addi rfl rfl (by omega) (by omega)) ?_
      refine yS (by kernel_rfl : opAt F20.o8 3 = some (some 3, .assign (.tmp 27), none)) rfl rfl (fun w' hS => val_assign rfl) ?_
      refine Sch.nil ?_
      refine run_inBlock ?_
      refine run_plain (id := 9) (ops := F20.o9) [(0, true), (1, true)] (by kernel_rfl) (by kernel_rfl) ?_
      refine yS (by kernel_rfl : opAt F20.o9 0 = some (some 28, .binOp .add 3 (.tmp 13) (.const (.int .i64 1)) 3, none)) rfl rfl (fun w' hS => val_addi rfl rfl (by omega) (by omega)) ?_
      refine yS (by kernel_rfl : opAt F20.o9 1 = some (some 13, .move (.tmp 28), none)) rfl rfl (fun w' hS => val_move rfl) ?_
      refine Sch.nil ?_
      refine kp (sub_cons 3 rfl (eq_int (by show _ = sngS sz k + (if singS sz k then gAt sz k else 0); rw [if_pos (by simpa using h24), gAt_in hkl])) (sub_cons 4 rfl rfl (sub_cons 11 rfl rfl (sub_cons 12 rfl rfl (sub_cons 13 rfl (eq_int (by simp)) (sub_nil _)))))) (next1 (k + 1, C1) _ ⟨(by first | omega | (simp only; omega)), hF, hT, hsz⟩ (by first | omega | (simp only; omega)))
    · skip
      refine run_skip (by kernel_rfl) ?_
      refine run_inBlock ?_
      refine run_plain (id := 9) (ops := F20.o9) [(0, true), (1, true)] (by kernel_rfl) (by kernel_rfl) ?_
      refine yS (by kernel_rfl : opAt F20.o9 0 = some (some 28, .binOp .add 3 (.tmp 13) (.const (.int .i64 1)) 3, none)) rfl rfl (fun w' hS => val_addi rfl rfl (by omega) (by omega)) ?_
      refine yS (by kernel_rfl : opAt F20.o9 1 = some (some 13, .move (.tmp 28), none)) rfl rfl (fun w' hS => val_move rfl) ?_
      refine Sch.nil ?_
      refine kp (sub_cons 3 rfl (eq_int (by show _ = sngS sz k + (if singS sz k then gAt sz k else 0); rw [if_neg (by simpa using h24), Int.add_zero])) (sub_cons 4 rfl rfl (sub_cons 11 rfl rfl (sub_cons 12 rfl rfl (sub_cons 13 rfl (eq_int (by simp)) (sub_nil _)))))) (next1 (k + 1, C1) _ ⟨(by first | omega | (simp only; omega)), hF, hT, hsz⟩ (by first | omega | (simp only; omega)))
  · skip
    have hkl : k = sz.length := by omega
    rw [hkl]
    refine run_exit (id := 0) (by kernel_rfl) rfl ?_
    refine run_seq (x := F20.c30) (y := F20.c31) (by kernel_rfl) ?_
    refine run_plain (id := 10) (ops := F20.o10) [(0, true), (1, true)] (by kernel_rfl) (by kernel_rfl) ?_
    refine yS (by kernel_rfl : opAt F20.o10 0 = some (some 29, .move (.tmp 3), none)) rfl rfl (fun w' hS => val_move rfl) ?_
    refine yS (by kernel_rfl : opAt F20.o10 1 = some (some 2, .assign (.tmp 29), none)) rfl rfl (fun w' hS => val_assign rfl) ?_
    refine Sch.nil ?_
    refine run_ret1 (by kernel_rfl) Try.func20 Try.results20 rfl ?_
    exact ⟨by rw [hsd], hT.out1 (by decide)⟩
namespace F56
noncomputable def c0 : Code := bodyOf Try.f56
noncomputable def c1 : Code := cl c0
noncomputable def o0 : Array Oper := rops c1
noncomputable def c2 : Code := cr c0
noncomputable def c3 : Code := cl c2
noncomputable def o1 : Array Oper := rops c3
noncomputable def c4 : Code := cr c2
end F56
theorem badCnt_ok {w₀ : World} {C : Nat → Nat} {x : Ent} (hF : Lim w₀ C) (h1 : 1 ≤ x.cnt ∧ x.cnt ≤ 1048576) : Calls Try.prog 56 #[.agg #[.string x.val, .int .i64 x.cnt]] w₀ (Ret fun v w' => v = .bool false ∧ Stp [] w₀ C w' C) := by
  have hF0 := hF
  have hT := Stp.refl [2, 3, 4, 5, 6, 7, 8, 9] w₀ (col1 C)
  replace hF := hF.col1
  refine calls_start (c := F56.c0) (N := 11) [.agg #[.string x.val, .int .i64 x.cnt]] Try.func56 (by kernel_rfl) (by kernel_rfl) (by kernel_rfl) ?_
  show Run _ _ _ _ [(0, .agg #[.string x.val, .int .i64 x.cnt])] _ _
  refine run_seq (x := F56.c1) (y := F56.c2) (by kernel_rfl) ?_
  refine run_plain (id := 0) (ops := F56.o0) [(0, false), (1, true)] (by kernel_rfl) (by kernel_rfl) ?_
  refine aS (by kernel_rfl : opAt F56.o0 0 = some (some 1, .box 61 (.tmp 0), none)) rfl rfl (a_box (cs := [.string x.val, .int .i64 x.cnt]) hF 3 rfl rfl) ?_
  rintro _ w1 ⟨Cw1, bw1, rfl, hs, hx, hF⟩
  refine ⟨trivial, ?_⟩
  replace hT := hT.trans hs (by simp)
  refine yS (by kernel_rfl : opAt F56.o0 1 = some (some 2, .assign (.const (.bool false)), none)) rfl rfl (fun w' hS => val_assign rfl) ?_
  refine Sch.nil ?_
  refine run_seq (x := F56.c3) (y := F56.c4) (by kernel_rfl) ?_
  refine run_plain (id := 1) (ops := F56.o1) [(0, true), (1, false), (2, true), (3, true), (4, true), (5, false), (6, true), (7, true), (8, true)] (by kernel_rfl) (by kernel_rfl) ?_
  refine yS (by kernel_rfl : opAt F56.o1 0 = some (some 3, .fieldAddr 61 (.tmp 1) 1, none)) rfl rfl (fun w' hS => val_fieldAddr (off := 1) (by kernel_rfl) rfl) ?_
  refine nS (by kernel_rfl : opAt F56.o1 1 = some (some 4, .load 3 (.tmp 3), none)) rfl rfl trivial (val_loadOwn hx.at_ (by kernel_rfl) rfl rfl) ?_
  refine yS (by kernel_rfl : opAt F56.o1 2 = some (some 5, .binOp .lss 3 (.tmp 4) (.const (.int .i64 1)) 3, none)) rfl rfl (fun w' hS => val_is (val_lss rfl rfl) (show _ = Value.bool false from congrArg Value.bool (decide_eq_false (by omega)))) ?_
  refine yS (by kernel_rfl : opAt F56.o1 3 = some (some 6, .move (.tmp 5), none)) rfl rfl (fun w' hS => val_move rfl) ?_
  refine yS (by kernel_rfl : opAt F56.o1 4 = some (some 7, .fieldAddr 61 (.tmp 1) 1, (some (3, false)))) rfl rfl (fun w' hS => val_fieldAddr (off := 1) (by kernel_rfl) rfl) ?_
  refine nS (by kernel_rfl : opAt F56.o1 5 = some (some 8, .load 3 (.tmp 7), (some (3, false)))) rfl rfl trivial (val_loadOwn hx.at_ (by kernel_rfl) rfl rfl) ?_
  refine yS (by kernel_rfl : opAt F56.o1 6 = some (some 9, .binOp .gtr 3 (.tmp 8) (.const (.int .i64 1048576)) 3, (some (3, false)))) rfl rfl (fun w' hS => val_is (val_gtr rfl rfl) (show _ = Value.bool false from congrArg Value.bool (decide_eq_false (by omega)))) ?_
  refine yS (by kernel_rfl : opAt F56.o1 7 = some (some 10, .pick (.tmp 6) (.const (.bool true)) (.tmp 9), none)) rfl rfl (fun w' hS => val_pick_f rfl rfl) ?_
  refine yS (by kernel_rfl : opAt F56.o1 8 = some (some 2, .assign (.tmp 10), none)) rfl rfl (fun w' hS => val_assign rfl) ?_
  refine Sch.nil ?_
  refine run_ret1 (by kernel_rfl) Try.func56 Try.results56 rfl ?_
  exact ⟨rfl, hT.out1 (by decide)⟩
namespace F73
noncomputable def c0 : Code := bodyOf Try.f73
noncomputable def c1 : Code := cl c0
noncomputable def o0 : Array Oper := rops c1
noncomputable def c2 : Code := cr c0
noncomputable def c3 : Code := cl c2
noncomputable def c4 : Code := cl c3
noncomputable def o1 : Array Oper := rops c4
noncomputable def c5 : Code := cr c3
noncomputable def c6 : Code := cl c5
noncomputable def c7 : Code := cl c6
noncomputable def c8 : Code := cl c7
noncomputable def o2 : Array Oper := rops c8
noncomputable def c9 : Code := cr c7
noncomputable def c10 : Code := cl c9
noncomputable def c11 : Code := cl c10
noncomputable def c12 : Code := cr c10
noncomputable def c13 : Code := cr c9
noncomputable def c14 : Code := cl c13
noncomputable def c15 : Code := cl c14
noncomputable def c16 : Code := cl c15
noncomputable def o3 : Array Oper := rops c16
noncomputable def c17 : Code := cr c15
noncomputable def c18 : Code := cl c17
noncomputable def o4 : Array Oper := rops c18
noncomputable def c19 : Code := cr c17
noncomputable def c20 : Code := cl c19
noncomputable def c21 : Code := cl c20
noncomputable def o5 : Array Oper := rops c21
noncomputable def c22 : Code := cr c20
noncomputable def c23 : Code := cr c19
noncomputable def c24 : Code := cr c13
noncomputable def o6 : Array Oper := rops c24
noncomputable def c25 : Code := cr c2
noncomputable def c26 : Code := cl c25
noncomputable def o7 : Array Oper := rops c26
noncomputable def c27 : Code := cr c25
end F73
theorem idxBad_ok {w₀ : World} {C : Nat → Nat} {es : List Ent} {vl : Value} (hF : Lim w₀ C) (hl : RV w₀ (Mc C) es vl) (hd : ∀ x ∈ es, 1 ≤ x.cnt ∧ x.cnt ≤ 1048576) : Calls Try.prog 73 #[vl, .func (.func 56) #[] #[]] w₀ (Ret fun v w' => v = .int .i64 (-1) ∧ Stp [] w₀ C w' C) := by
  have hF0 := hF
  have hT := Stp.refl [2, 3, 4, 5, 6, 7, 8, 9] w₀ (col1 C)
  replace hF := hF.col1
  replace hl : RV w₀ (Mc (col1 C)) es vl := by rw [Mc_col1]; exact hl
  refine calls_start (c := F73.c0) (N := 19) [vl, .func (.func 56) #[] #[]] Try.func73 (by kernel_rfl) (by kernel_rfl) (by kernel_rfl) ?_
  show Run _ _ _ _ [(0, vl), (1, .func (.func 56) #[] #[])] _ _
  refine run_seq (x := F73.c1) (y := F73.c2) (by kernel_rfl) ?_
  refine run_plain (id := 0) (ops := F73.o0) [(0, true)] (by kernel_rfl) (by kernel_rfl) ?_
  refine yS (by kernel_rfl : opAt F73.o0 0 = some (some 4, .assign (.const (.int .i64 0)), none)) rfl rfl (fun w' hS => val_assign rfl) ?_
  refine Sch.nil ?_
  refine run_seq (x := F73.c3) (y := F73.c25) (by kernel_rfl) ?_
  refine run_seq (x := F73.c4) (y := F73.c5) (by kernel_rfl) ?_
  refine run_plain (id := 1) (ops := F73.o1) [(0, true), (1, true), (2, true)] (by kernel_rfl) (by kernel_rfl) ?_
  refine yS (by kernel_rfl : opAt F73.o1 0 = some (some 6, .move (.tmp 0), none)) rfl rfl (fun w' hS => val_move rfl) ?_
  refine yS (by kernel_rfl : opAt F73.o1 1 = some (some 7, .call { callee := .builtin .len, args := #[(.tmp 6)], argTypes := #[43] }, none)) rfl rfl (fun w' hS => hl.lenV rfl Try.underlying43 w' ) ?_
  refine yS (by kernel_rfl : opAt F73.o1 2 = some (some 8, .move (.const (.int .i64 0)), none)) rfl rfl (fun w' hS => val_move rfl) ?_
  refine Sch.nil ?_
  refine run_block (x := F73.c6) (id := 0) (by kernel_rfl) ?_
  
  refine run_loop (ι := Nat × (Nat → Nat)) (I := fun x w => x.1 ≤ es.length ∧ Lim w x.2 ∧ Stp [2, 3, 4, 5, 6, 7, 8, 9] w₀ (col1 C) w x.2 ∧ RV w (Mc x.2) es vl) (e := fun x => [(0, vl), (1, .func (.func 56) #[] #[]), (7, .int .i64 es.length), (8, .int .i64 x.1)]) (m := fun x => es.length - x.1) (x₀ := (0, col1 C)) (body := F73.c7) (by kernel_rfl) (sub_cons 0 rfl rfl (sub_cons 1 rfl rfl (sub_cons 7 rfl rfl (sub_cons 8 rfl rfl (sub_nil _))))) ?_ ?_
  · exact ⟨Nat.zero_le _, hF, hT, hl⟩
  intro ⟨k, C1⟩ w1 hI next
  obtain ⟨hk, hF, hT, hl⟩ := hI
  try simp only at hk hF hT hl
  have next1 := next
  clear next
  show Run _ _ _ _ [(0, vl), (1, .func (.func 56) #[] #[]), (7, .int .i64 es.length), (8, .int .i64 k)] _ _
  have hle := hl.le
  refine run_seq (x := F73.c8) (y := F73.c9) (by kernel_rfl) ?_
  refine run_plain (id := 2) (ops := F73.o2) [(0, true)] (by kernel_rfl) (by kernel_rfl) ?_
  refine yS (by kernel_rfl : opAt F73.o2 0 = some (some 9, .binOp .lss 3 (.tmp 8) (.tmp 7) 3, none)) rfl rfl (fun w' hS => val_lss rfl rfl) ?_
  refine Sch.nil ?_
  refine run_seq (x := F73.c10) (y := F73.c13) (by kernel_rfl) ?_
  refine run_if (x := F73.c11) (y := F73.c12) (o := .tmp 9) (by kernel_rfl) rfl (fun h9 => ?_) (fun h9 => ?_)
  · skip
    have hkl : k < es.length := by omega
    refine run_skip (by kernel_rfl) ?_
    refine run_seq (x := F73.c14) (y := F73.c24) (by kernel_rfl) ?_
    refine run_block (x := F73.c15) (id := 1) (by kernel_rfl) ?_
    refine run_seq (x := F73.c16) (y := F73.c17) (by kernel_rfl) ?_
    refine run_plain (id := 3) (ops := F73.o3) [(0, true), (1, true)] (by kernel_rfl) (by kernel_rfl) ?_
    refine yS (by kernel_rfl : opAt F73.o3 0 = some (some 10, .move (.tmp 8), none)) rfl rfl (fun w' hS => val_move rfl) ?_
    refine yS (by kernel_rfl : opAt F73.o3 1 = some (some 5, .assign (.tmp 10), none)) rfl rfl (fun w' hS => val_assign rfl) ?_
    refine Sch.nil ?_
    refine run_seq (x := F73.c18) (y := F73.c19) (by kernel_rfl) ?_
    refine run_plain (id := 4) (ops := F73.o4) [(0, true), (1, true), (2, true), (3, true), (4, false), (5, false)] (by kernel_rfl) (by kernel_rfl) ?_
    refine yS (by kernel_rfl : opAt F73.o4 0 = some (some 11, .move (.tmp 1), none)) rfl rfl (fun w' hS => val_move rfl) ?_
    refine yS (by kernel_rfl : opAt F73.o4 1 = some (some 12, .move (.tmp 0), none)) rfl rfl (fun w' hS => val_move rfl) ?_
    refine yS (by kernel_rfl : opAt F73.o4 2 = some (some 13, .move (.tmp 5), none)) rfl rfl (fun w' hS => val_move rfl) ?_
    refine iS (e := 61) (by kernel_rfl : opAt F73.o4 3 = some (some 14, .indexAddr 43 (.tmp 12) (.tmp 13), none)) rfl rfl hl rfl (by kernel_rfl) rfl (by omega) (by omega) ?_
    intro b14 o14 h14
    try simp only [Int.toNat_natCast] at h14
    refine lNA (by kernel_rfl : opAt F73.o4 4 = some (some 15, .load 61 (.tmp 14), none)) rfl rfl trivial h14 (by kernel_rfl) (by kernel_rfl) rfl rfl ?_
    intro v15 g15
    obtain ⟨rfl, _⟩ := rv_ent.1 g15
    refine cS (by kernel_rfl : opAt F73.o4 5 = some (some 16, .call { callee := .value (.tmp 11), args := #[(.tmp 15)], argTypes := #[61] }, none)) rfl rfl (enters_func Try.call56 rfl rfl) (badCnt_ok (x := es[k]) hF (hd _ (List.getElem_mem hkl))) ?_
    rintro vw2 w2 ⟨rfl, hs⟩
    refine ⟨trivial, ?_⟩
    replace hF := hF.st hs
    replace hT := hT.trans hs (by simp)
    replace hl := hl.st hs (by first | decide | (simp <;> omega))
    replace h14 := h14.st hs (by first | decide | (simp <;> omega))
    replace g15 := g15.st hs (by first | decide | (simp <;> omega))
    refine Sch.nil ?_
    refine run_cond (x := F73.c20) (y := F73.c23) (o := .tmp 16) (b := false) (by kernel_rfl) rfl (fun h => by cases h) (fun _ => ?_)
    refine run_skip (by kernel_rfl) ?_
    refine run_inBlock ?_
    refine run_plain (id := 6) (ops := F73.o6) [(0, true), (1, true)] (by kernel_rfl) (by kernel_rfl) ?_
    refine yS (by kernel_rfl : opAt F73.o6 0 = some (some 18, .binOp .add 3 (.tmp 8) (.const (.int .i64 1)) 3, none)) rfl rfl (fun w' hS => val_addi rfl rfl (by omega) (by omega)) ?_
    refine yS (by kernel_rfl : opAt F73.o6 1 = some (some 8, .move (.tmp 18), none)) rfl rfl (fun w' hS => val_move rfl) ?_
    refine Sch.nil ?_
    refine kp (sub_cons 0 rfl rfl (sub_cons 1 rfl rfl (sub_cons 7 rfl rfl (sub_cons 8 rfl (eq_int (by simp)) (sub_nil _))))) (next1 (k + 1, C1) _ ⟨(by first | omega | (simp only; omega)), hF, hT, hl⟩ (by first | omega | (simp only; omega)))
  · skip
    have hkl : k = es.length := by omega
    refine run_exit (id := 0) (by kernel_rfl) rfl ?_
    refine run_seq (x := F73.c26) (y := F73.c27) (by kernel_rfl) ?_
    refine run_plain (id := 7) (ops := F73.o7) [(0, true)] (by kernel_rfl) (by kernel_rfl) ?_
    refine yS (by kernel_rfl : opAt F73.o7 0 = some (some 4, .assign (.const (.int .i64 (-1))), none)) rfl rfl (fun w' hS => val_assign rfl) ?_
    refine Sch.nil ?_
    refine run_ret1 (by kernel_rfl) Try.func73 Try.results73 rfl ?_
    exact ⟨rfl, hT.out1 (by decide)⟩
namespace F55
noncomputable def c0 : Code := bodyOf Try.f55
noncomputable def c1 : Code := cl c0
noncomputable def o0 : Array Oper := rops c1
noncomputable def c2 : Code := cr c0
noncomputable def c3 : Code := cl c2
noncomputable def o1 : Array Oper := rops c3
noncomputable def c4 : Code := cr c2
end F55
theorem anyBad_ok {w₀ : World} {C : Nat → Nat} {es : List Ent} {vl : Value} (hF : Lim w₀ C) (hl : RV w₀ (Mc C) es vl) (hd : ∀ x ∈ es, 1 ≤ x.cnt ∧ x.cnt ≤ 1048576) : Calls Try.prog 55 #[vl, .func (.func 56) #[] #[]] w₀ (Ret fun v w' => v = .bool false ∧ Stp [] w₀ C w' C) := by
  have hF0 := hF
  have hT := Stp.refl [2, 3, 4, 5, 6, 7, 8, 9] w₀ (col1 C)
  replace hF := hF.col1
  replace hl : RV w₀ (Mc (col1 C)) es vl := by rw [Mc_col1]; exact hl
  refine calls_start (c := F55.c0) (N := 9) [vl, .func (.func 56) #[] #[]] Try.func55 (by kernel_rfl) (by kernel_rfl) (by kernel_rfl) ?_
  show Run _ _ _ _ [(0, vl), (1, .func (.func 56) #[] #[])] _ _
  refine run_seq (x := F55.c1) (y := F55.c2) (by kernel_rfl) ?_
  refine run_plain (id := 0) (ops := F55.o0) [(0, true)] (by kernel_rfl) (by kernel_rfl) ?_
  refine yS (by kernel_rfl : opAt F55.o0 0 = some (some 4, .assign (.const (.bool false)), none)) rfl rfl (fun w' hS => val_assign rfl) ?_
  refine Sch.nil ?_
  refine run_seq (x := F55.c3) (y := F55.c4) (by kernel_rfl) ?_
  refine run_plain (id := 1) (ops := F55.o1) [(0, true), (1, true), (2, false), (3, true), (4, true)] (by kernel_rfl) (by kernel_rfl) ?_
  refine yS (by kernel_rfl : opAt F55.o1 0 = some (some 5, .move (.tmp 0), none)) rfl rfl (fun w' hS => val_move rfl) ?_
  refine yS (by kernel_rfl : opAt F55.o1 1 = some (some 6, .move (.tmp 1), none)) rfl rfl (fun w' hS => val_move rfl) ?_
  refine cS (by kernel_rfl : opAt F55.o1 2 = some (some 7, .call { callee := .value (.func 73), args := #[(.tmp 5), (.tmp 6)], argTypes := #[43, 93] }, none)) rfl rfl (ent Try.call73 rfl) (idxBad_ok hF hl hd) ?_
  rintro vw1 w1 ⟨rfl, hs⟩
  refine ⟨trivial, ?_⟩
  replace hF := hF.st hs
  replace hT := hT.trans hs (by simp)
  replace hl := hl.st hs (by first | decide | (simp <;> omega))
  refine yS (by kernel_rfl : opAt F55.o1 3 = some (some 8, .binOp .geq 3 (.tmp 7) (.const (.int .i64 0)) 3, none)) rfl rfl (fun w' hS => val_geq rfl rfl) ?_
  refine yS (by kernel_rfl : opAt F55.o1 4 = some (some 4, .assign (.tmp 8), none)) rfl rfl (fun w' hS => val_assign rfl) ?_
  refine Sch.nil ?_
  refine run_ret1 (by kernel_rfl) Try.func55 Try.results55 rfl ?_
  exact ⟨rfl, hT.out1 (by decide)⟩
namespace F40
noncomputable def c0 : Code := bodyOf Try.f40
noncomputable def c1 : Code := cl c0
noncomputable def o0 : Array Oper := rops c1
noncomputable def c2 : Code := cr c0
noncomputable def c3 : Code := cl c2
noncomputable def c4 : Code := cl c3
noncomputable def o1 : Array Oper := rops c4
noncomputable def c5 : Code := cr c3
noncomputable def c6 : Code := cl c5
noncomputable def c7 : Code := cl c6
noncomputable def o2 : Array Oper := rops c7
noncomputable def c8 : Code := cr c6
noncomputable def c9 : Code := cr c5
noncomputable def c10 : Code := cr c2
noncomputable def c11 : Code := cl c10
noncomputable def c12 : Code := cl c11
noncomputable def o3 : Array Oper := rops c12
noncomputable def c13 : Code := cr c11
noncomputable def c14 : Code := cl c13
noncomputable def c15 : Code := cl c14
noncomputable def c16 : Code := cl c15
noncomputable def o4 : Array Oper := rops c16
noncomputable def c17 : Code := cr c15
noncomputable def c18 : Code := cl c17
noncomputable def c19 : Code := cl c18
noncomputable def c20 : Code := cr c18
noncomputable def c21 : Code := cr c17
noncomputable def c22 : Code := cl c21
noncomputable def c23 : Code := cl c22
noncomputable def c24 : Code := cl c23
noncomputable def o5 : Array Oper := rops c24
noncomputable def c25 : Code := cr c23
noncomputable def c26 : Code := cl c25
noncomputable def o6 : Array Oper := rops c26
noncomputable def c27 : Code := cr c25
noncomputable def c28 : Code := cl c27
noncomputable def c29 : Code := cl c28
noncomputable def o7 : Array Oper := rops c29
noncomputable def c30 : Code := cr c28
noncomputable def c31 : Code := cr c27
noncomputable def c32 : Code := cr c21
noncomputable def o8 : Array Oper := rops c32
noncomputable def c33 : Code := cr c10
noncomputable def c34 : Code := cl c33
noncomputable def c35 : Code := cl c34
noncomputable def o9 : Array Oper := rops c35
noncomputable def c36 : Code := cr c34
noncomputable def c37 : Code := cl c36
noncomputable def c38 : Code := cl c37
noncomputable def o10 : Array Oper := rops c38
noncomputable def c39 : Code := cr c37
noncomputable def c40 : Code := cr c36
noncomputable def c41 : Code := cr c33
noncomputable def c42 : Code := cl c41
noncomputable def o11 : Array Oper := rops c42
noncomputable def c43 : Code := cr c41
end F40
theorem dictCheck_ok {w₀ : World} {C : Nat → Nat} {es : List Ent} {vl : Value} (hF : Lim w₀ C) (hl : RV w₀ (Mc C) es vl) (hd : DictOK es) : Calls Try.prog 40 #[vl] w₀ (Ret fun v w' => v = .int .i64 0 ∧ Stp [] w₀ C w' C) := by
  have hF0 := hF
  have hT := Stp.refl [2, 3, 4, 5, 6, 7, 8, 9] w₀ (col1 C)
  replace hF := hF.col1
  replace hl : RV w₀ (Mc (col1 C)) es vl := by rw [Mc_col1]; exact hl
  refine calls_start (c := F40.c0) (N := 31) [vl] Try.func40 (by kernel_rfl) (by kernel_rfl) (by kernel_rfl) ?_
  show Run _ _ _ _ [(0, vl)] _ _
  refine run_seq (x := F40.c1) (y := F40.c2) (by kernel_rfl) ?_
  refine run_plain (id := 0) (ops := F40.o0) [(0, true)] (by kernel_rfl) (by kernel_rfl) ?_
  refine yS (by kernel_rfl : opAt F40.o0 0 = some (some 2, .assign (.const (.int .i64 0)), none)) rfl rfl (fun w' hS => val_assign rfl) ?_
  refine Sch.nil ?_
  refine run_seq (x := F40.c3) (y := F40.c10) (by kernel_rfl) ?_
  refine run_seq (x := F40.c4) (y := F40.c5) (by kernel_rfl) ?_
  refine run_plain (id := 1) (ops := F40.o1) [(0, true), (1, true), (2, true)] (by kernel_rfl) (by kernel_rfl) ?_
  refine yS (by kernel_rfl : opAt F40.o1 0 = some (some 5, .move (.tmp 0), none)) rfl rfl (fun w' hS => val_move rfl) ?_
  refine yS (by kernel_rfl : opAt F40.o1 1 = some (some 6, .call { callee := .builtin .len, args := #[(.tmp 5)], argTypes := #[43] }, none)) rfl rfl (fun w' hS => hl.lenV rfl Try.underlying43 w' ) ?_
  refine yS (by kernel_rfl : opAt F40.o1 2 = some (some 7, .binOp .gtr 3 (.tmp 6) (.const (.int .i64 64)) 3, none)) rfl rfl (fun w' hS => val_gtr rfl rfl) ?_
  refine Sch.nil ?_
  refine run_if (x := F40.c6) (y := F40.c9) (o := .tmp 7) (by kernel_rfl) rfl (fun h7 => ?_) (fun h7 => ?_)
  · skip
    exact absurd h7 (by have := hd.len; omega)
  · skip
    refine run_skip (by kernel_rfl) ?_
    refine run_seq (x := F40.c11) (y := F40.c33) (by kernel_rfl) ?_
    refine run_seq (x := F40.c12) (y := F40.c13) (by kernel_rfl) ?_
    refine run_plain (id := 3) (ops := F40.o3) [(0, true), (1, true), (2, true)] (by kernel_rfl) (by kernel_rfl) ?_
    refine yS (by kernel_rfl : opAt F40.o3 0 = some (some 8, .move (.tmp 0), none)) rfl rfl (fun w' hS => val_move rfl) ?_
    refine yS (by kernel_rfl : opAt F40.o3 1 = some (some 9, .call { callee := .builtin .len, args := #[(.tmp 8)], argTypes := #[43] }, none)) rfl rfl (fun w' hS => hl.lenV rfl Try.underlying43 w' ) ?_
    refine yS (by kernel_rfl : opAt F40.o3 2 = some (some 10, .move (.const (.int .i64 0)), none)) rfl rfl (fun w' hS => val_move rfl) ?_
    refine Sch.nil ?_
    refine run_block (x := F40.c14) (id := 0) (by kernel_rfl) ?_
    
    refine run_loop (ι := Nat × (Nat → Nat)) (I := fun x w => x.1 ≤ es.length ∧ Lim w x.2 ∧ Stp [2, 3, 4, 5, 6, 7, 8, 9] w₀ (col1 C) w x.2 ∧ RV w (Mc x.2) es vl) (e := fun x => [(0, vl), (8, vl), (9, .int .i64 es.length), (10, .int .i64 x.1)]) (m := fun x => es.length - x.1) (x₀ := (0, col1 C)) (body := F40.c15) (by kernel_rfl) (sub_cons 0 rfl rfl (sub_cons 8 rfl rfl (sub_cons 9 rfl rfl (sub_cons 10 rfl rfl (sub_nil _))))) ?_ ?_
    · exact ⟨Nat.zero_le _, hF, hT, hl⟩
    intro ⟨k, C1⟩ w1 hI next
    obtain ⟨hk, hF, hT, hl⟩ := hI
    try simp only at hk hF hT hl
    have next1 := next
    clear next
    show Run _ _ _ _ [(0, vl), (8, vl), (9, .int .i64 es.length), (10, .int .i64 k)] _ _
    have hdl := hd.len
    refine run_seq (x := F40.c16) (y := F40.c17) (by kernel_rfl) ?_
    refine run_plain (id := 4) (ops := F40.o4) [(0, true)] (by kernel_rfl) (by kernel_rfl) ?_
    refine yS (by kernel_rfl : opAt F40.o4 0 = some (some 11, .binOp .lss 3 (.tmp 10) (.tmp 9) 3, none)) rfl rfl (fun w' hS => val_lss rfl rfl) ?_
    refine Sch.nil ?_
    refine run_seq (x := F40.c18) (y := F40.c21) (by kernel_rfl) ?_
    refine run_if (x := F40.c19) (y := F40.c20) (o := .tmp 11) (by kernel_rfl) rfl (fun h11 => ?_) (fun h11 => ?_)
    · skip
      have hkl : k < es.length := by omega
      refine run_skip (by kernel_rfl) ?_
      refine run_seq (x := F40.c22) (y := F40.c32) (by kernel_rfl) ?_
      refine run_block (x := F40.c23) (id := 1) (by kernel_rfl) ?_
      refine run_seq (x := F40.c24) (y := F40.c25) (by kernel_rfl) ?_
      refine run_plain (id := 5) (ops := F40.o5) [(0, true), (1, true), (2, false), (3, false), (4, true), (5, false)] (by kernel_rfl) (by kernel_rfl) ?_
      refine yS (by kernel_rfl : opAt F40.o5 0 = some (some 12, .move (.tmp 10), none)) rfl rfl (fun w' hS => val_move rfl) ?_
      refine iS (e := 61) (by kernel_rfl : opAt F40.o5 1 = some (some 13, .indexAddr 43 (.tmp 8) (.tmp 10), none)) rfl rfl hl rfl (by kernel_rfl) rfl (by omega) (by omega) ?_
      intro b13 o13 h13
      try simp only [Int.toNat_natCast] at h13
      refine lNA (by kernel_rfl : opAt F40.o5 2 = some (some 14, .load 61 (.tmp 13), none)) rfl rfl trivial h13 (by kernel_rfl) (by kernel_rfl) rfl rfl ?_
      intro v14 g14
      obtain ⟨rfl, hvs⟩ := rv_ent.1 g14
      clear g14
      refine aS (by kernel_rfl : opAt F40.o5 3 = some (some 4, .alloc 61, none)) rfl rfl (a_alloc (cs := [.string ⟨#[]⟩, .int .i64 0]) hF 4 (by kernel_rfl)) ?_
      rintro _ w2 ⟨Cw2, bw2, rfl, hs, hx, hF⟩
      refine ⟨trivial, ?_⟩
      replace hT := hT.trans hs (by simp)
      replace hl := hl.st hs (by first | decide | (simp <;> omega))
      replace h13 := h13.st hs (by first | decide | (simp <;> omega))
      refine yS (by kernel_rfl : opAt F40.o5 4 = some (some 3, .assign (.tmp 12), none)) rfl rfl (fun w' hS => val_assign rfl) ?_
      refine aN (by kernel_rfl : opAt F40.o5 5 = some (none, .store 61 (.tmp 4) (.tmp 14), none)) rfl (a_storeAll (vs := [.string es[k].val, .int .i64 es[k].cnt]) (n := 2) rfl rfl (by kernel_rfl) rfl rfl (by intro z hz; simp only [List.mem_cons, List.not_mem_nil, or_false] at hz; rcases hz with rfl | rfl <;> rfl) hx rfl) ?_
      rintro _ w3 ⟨rfl, hs, hx⟩
      refine ⟨trivial, ?_⟩
      replace hF := hF.st hs
      replace hT := hT.trans hs (by simp)
      replace hl := hl.st hs (by first | decide | (simp <;> omega))
      replace h13 := h13.st hs (by first | decide | (simp <;> omega))
      refine Sch.nil ?_
      refine run_seq (x := F40.c26) (y := F40.c27) (by kernel_rfl) ?_
      refine run_cut 27 (false) (Cw2) ?_ ?_
      · intro hcut
        by_cases hA : (0 : Int) < k
        · skip
          refine run_draw (id := 6) (ops := F40.o6) [] (Cw2) [(0, true), (1, true), (2, true), (3, true), (4, true), (5, true), (6, true), (7, true), (8, true), (9, true), (10, true), (11, true), (12, true)] Try_mixed (by kernel_rfl) (by kernel_rfl) (by kernel_rfl) ?_
          intro w4 hs
          replace hF := hF.st hs
          replace hT := hT.trans hs (by simp)
          replace hl := hl.st hs (by first | decide | (simp <;> omega))
          replace h13 := h13.st hs (by first | decide | (simp <;> omega))
          replace hx := hx.st hs (by first | decide | (simp <;> omega))
          have hcs := hs
          refine yS (by kernel_rfl : opAt F40.o6 0 = some (some 15, .move (.tmp 3), none)) rfl rfl (fun w' hS => val_move rfl) ?_
          refine yS (by kernel_rfl : opAt F40.o6 1 = some (some 16, .binOp .gtr 3 (.tmp 15) (.const (.int .i64 0)) 3, none)) rfl rfl (fun w' hS => val_T (val_gtr rfl rfl) hA) ?_
          refine yS (by kernel_rfl : opAt F40.o6 2 = some (some 17, .move (.tmp 16), none)) rfl rfl (fun w' hS => val_move rfl) ?_
          refine yS (by kernel_rfl : opAt F40.o6 3 = some (some 18, .move (.tmp 0), (some (2, true)))) rfl rfl (fun w' hS => val_move rfl) ?_
          refine yS (by kernel_rfl : opAt F40.o6 4 = some (some 19, .move (.tmp 3), (some (2, true)))) rfl rfl (fun w' hS => val_move rfl) ?_
          refine yS (by kernel_rfl : opAt F40.o6 5 = some (some 20, .binOp .sub 3 (.tmp 19) (.const (.int .i64 1)) 3, (some (2, true)))) rfl rfl (fun w' hS => val_subi rfl rfl (by omega) (by omega)) ?_
          refine iS (e := 61) (by kernel_rfl : opAt F40.o6 6 = some (some 21, .indexAddr 43 (.tmp 18) (.tmp 20), (some (2, true)))) rfl rfl hl rfl (by kernel_rfl) rfl (by omega) (by omega) ?_
          intro b21 o21 h21
          try simp only [Int.toNat_natCast] at h21
          have h22 := RA.entv h21
          refine yS (by kernel_rfl : opAt F40.o6 7 = some (some 22, .fieldAddr 61 (.tmp 21) 0, (some (2, true)))) rfl rfl (fun w' hS => val_fieldAddr (off := 0) (by kernel_rfl) rfl) ?_
          refine lS (by kernel_rfl : opAt F40.o6 8 = some (some 23, .load 9 (.tmp 22), (some (2, true)))) rfl rfl (fun w' hS => h22.stay hS (by first | decide | (simp <;> omega))) h22 (by kernel_rfl) rfl rfl ?_
          intro v23 g23
          obtain ⟨rfl, _⟩ := rv_str.1 g23
          refine yS (by kernel_rfl : opAt F40.o6 9 = some (some 24, .fieldAddr 61 (.tmp 4) 0, (some (2, true)))) rfl rfl (fun w' hS => val_fieldAddr (off := 0) (by kernel_rfl) rfl) ?_
          refine yS (by kernel_rfl : opAt F40.o6 10 = some (some 25, .load 9 (.tmp 24), (some (2, true)))) rfl rfl (fun w' hS => val_loadOwn (hx.stay hS (by decide)) (by kernel_rfl) rfl rfl) ?_
          have hst : strLt (es[((k : Int) - 1).toNat]'(by omega)).val (es[k]'hkl).val = true := by
            obtain ⟨q, rfl⟩ : ∃ q, k = q + 1 := ⟨k - 1, by omega⟩
            have := hd.asc q (by omega)
            simpa [show (((q + 1 : Nat) : Int) - 1).toNat = q from by omega] using this
          refine yS (by kernel_rfl : opAt F40.o6 11 = some (some 26, .binOp .geq 9 (.tmp 23) (.tmp 25) 9, (some (2, true)))) rfl rfl (fun w' hS => val_is (val_strGeq rfl rfl) (show _ = Value.bool false from by rw [hst]; rfl)) ?_
          refine yS (by kernel_rfl : opAt F40.o6 12 = some (some 27, .pick (.tmp 17) (.tmp 26) (.const (.bool false)), none)) rfl rfl (fun w' hS => val_pick_t rfl rfl) ?_
          exact Sch.nil (hcut _ _ _ hcs rfl (rfl) (sub_skip rfl (sub_skip rfl (sub_skip rfl (sub_skip rfl (sub_skip rfl (sub_skip rfl (sub_skip rfl (sub_skip rfl (sub_skip rfl (sub_skip rfl (sub_skip rfl (sub_skip rfl (sub_skip rfl (Sub.refl _)))))))))))))))
        · skip
          refine run_draw (id := 6) (ops := F40.o6) [] (Cw2) [(0, true), (1, true), (2, true), (3, true), (4, true), (5, true), (6, true), (7, true), (8, true), (9, true), (10, true), (11, true), (12, true)] Try_mixed (by kernel_rfl) (by kernel_rfl) (by kernel_rfl) ?_
          intro w5 hs
          replace hF := hF.st hs
          replace hT := hT.trans hs (by simp)
          replace hl := hl.st hs (by first | decide | (simp <;> omega))
          replace h13 := h13.st hs (by first | decide | (simp <;> omega))
          replace hx := hx.st hs (by first | decide | (simp <;> omega))
          have hcs := hs
          refine yS (by kernel_rfl : opAt F40.o6 0 = some (some 15, .move (.tmp 3), none)) rfl rfl (fun w' hS => val_move rfl) ?_
          refine yS (by kernel_rfl : opAt F40.o6 1 = some (some 16, .binOp .gtr 3 (.tmp 15) (.const (.int .i64 0)) 3, none)) rfl rfl (fun w' hS => val_F (val_gtr rfl rfl) hA) ?_
          refine yS (by kernel_rfl : opAt F40.o6 2 = some (some 17, .move (.tmp 16), none)) rfl rfl (fun w' hS => val_move rfl) ?_
          refine pS (by kernel_rfl : opAt F40.o6 3 = some (some 18, .move (.tmp 0), (some (2, true)))) rfl rfl ?_
          refine pS (by kernel_rfl : opAt F40.o6 4 = some (some 19, .move (.tmp 3), (some (2, true)))) rfl rfl ?_
          refine pS (by kernel_rfl : opAt F40.o6 5 = some (some 20, .binOp .sub 3 (.tmp 19) (.const (.int .i64 1)) 3, (some (2, true)))) rfl rfl ?_
          refine pS (by kernel_rfl : opAt F40.o6 6 = some (some 21, .indexAddr 43 (.tmp 18) (.tmp 20), (some (2, true)))) rfl rfl ?_
          refine pS (by kernel_rfl : opAt F40.o6 7 = some (some 22, .fieldAddr 61 (.tmp 21) 0, (some (2, true)))) rfl rfl ?_
          refine pS (by kernel_rfl : opAt F40.o6 8 = some (some 23, .load 9 (.tmp 22), (some (2, true)))) rfl rfl ?_
          refine pS (by kernel_rfl : opAt F40.o6 9 = some (some 24, .fieldAddr 61 (.tmp 4) 0, (some (2, true)))) rfl rfl ?_
          refine pS (by kernel_rfl : opAt F40.o6 10 = some (some 25, .load 9 (.tmp 24), (some (2, true)))) rfl rfl ?_
          refine pS (by kernel_rfl : opAt F40.o6 11 = some (some 26, .binOp .geq 9 (.tmp 23) (.tmp 25) 9, (some (2, true)))) rfl rfl ?_
          refine yS (by kernel_rfl : opAt F40.o6 12 = some (some 27, .pick (.tmp 17) (.tmp 26) (.const (.bool false)), none)) rfl rfl (fun w' hS => val_pick_f rfl rfl) ?_
          exact Sch.nil (hcut _ _ _ hcs rfl (rfl) (sub_skip rfl (sub_skip rfl (sub_skip rfl (sub_skip rfl (sub_skip rfl (sub_skip rfl (sub_skip rfl (sub_skip rfl (sub_skip rfl (sub_skip rfl (sub_skip rfl (sub_skip rfl (sub_skip rfl (Sub.refl _)))))))))))))))
      intro w6 hs
      replace hF := hF.st hs
      replace hT := hT.trans hs (by simp)
      replace hl := hl.st hs (by first | decide | (simp <;> omega))
      replace h13 := h13.st hs (by first | decide | (simp <;> omega))
      replace hx := hx.st hs (by first | decide | (simp <;> omega))
      refine run_cond (x := F40.c28) (y := F40.c31) (o := .tmp 27) (b := false) (by kernel_rfl) rfl (fun h => by cases h) (fun _ => ?_)
      refine run_skip (by kernel_rfl) ?_
      refine run_inBlock ?_
      refine run_plain (id := 8) (ops := F40.o8) [(0, true), (1, true)] (by kernel_rfl) (by kernel_rfl) ?_
      refine yS (by kernel_rfl : opAt F40.o8 0 = some (some 28, .binOp .add 3 (.tmp 10) (.const (.int .i64 1)) 3, none)) rfl rfl (fun w' hS => val_addi rfl rfl (by omega) (by omega)) ?_
      refine yS (by kernel_rfl : opAt F40.o8 1 = some (some 10, .move (.tmp 28), none)) rfl rfl (fun w' hS => val_move rfl) ?_
      refine Sch.nil ?_
      refine kp (sub_cons 0 rfl rfl (sub_cons 8 rfl rfl (sub_cons 9 rfl rfl (sub_cons 10 rfl (eq_int (by simp)) (sub_nil _))))) (next1 (k + 1, Cw2) _ ⟨(by first | omega | (simp only; omega)), hF, hT, hl⟩ (by first | omega | (simp only; omega)))
    · skip
      have hkl : k = es.length := by omega
      refine run_exit (id := 0) (by kernel_rfl) rfl ?_
      refine run_seq (x := F40.c34) (y := F40.c41) (by kernel_rfl) ?_
      refine run_seq (x := F40.c35) (y := F40.c36) (by kernel_rfl) ?_
      refine run_plain (id := 9) (ops := F40.o9) [(0, true), (1, false)] (by kernel_rfl) (by kernel_rfl) ?_
      refine yS (by kernel_rfl : opAt F40.o9 0 = some (some 29, .move (.tmp 0), none)) rfl rfl (fun w' hS => val_move rfl) ?_
      refine cS (by kernel_rfl : opAt F40.o9 1 = some (some 30, .call { callee := .value (.func 55), args := #[(.tmp 29), (.func 56)], argTypes := #[43, 93] }, none)) rfl rfl (ent Try.call55 rfl) (anyBad_ok hF hl hd.cnt) ?_
      rintro vw7 w7 ⟨rfl, hs⟩
      refine ⟨trivial, ?_⟩
      replace hF := hF.st hs
      replace hT := hT.trans hs (by simp)
      replace hl := hl.st hs (by first | decide | (simp <;> omega))
      refine Sch.nil ?_
      refine run_cond (x := F40.c37) (y := F40.c40) (o := .tmp 30) (b := false) (by kernel_rfl) rfl (fun h => by cases h) (fun _ => ?_)
      refine run_skip (by kernel_rfl) ?_
      refine run_seq (x := F40.c42) (y := F40.c43) (by kernel_rfl) ?_
      refine run_plain (id := 11) (ops := F40.o11) [(0, true)] (by kernel_rfl) (by kernel_rfl) ?_
      refine yS (by kernel_rfl : opAt F40.o11 0 = some (some 2, .assign (.const (.int .i64 0)), none)) rfl rfl (fun w' hS => val_assign rfl) ?_
      refine Sch.nil ?_
      refine run_ret1 (by kernel_rfl) Try.func40 Try.results40 rfl ?_
      exact ⟨rfl, hT.out1 (by decide)⟩
end Go.Proofs.Ytbdlkdiadplmcaa
