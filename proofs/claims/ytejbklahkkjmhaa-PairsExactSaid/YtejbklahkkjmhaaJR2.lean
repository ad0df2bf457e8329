/- Steps through functions of the program. -/
import Derived.Test.YtejbklahkkjmhaaJR1
set_option linter.unusedVariables false
set_option linter.unusedSimpArgs false
set_option maxRecDepth 100000
set_option maxHeartbeats 4000000
namespace Go.Proofs.Ytejbklahkkjmhaa
open Go.K Go.K.Rep

namespace F20
noncomputable def c0 : Code := bodyOf Try.f20
noncomputable def c1 : Code := cl c0
noncomputable def o0 : Array Oper := rops c1
noncomputable def c2 : Code := cr c0
noncomputable def c3 : Code := cl c2
noncomputable def c4 : Code := cl c3
noncomputable def o1 : Array Oper := rops c4
noncomputable def c5 : Code := cr c3
noncomputable def c6 : Code := cl c5
noncomputable def o2 : Array Oper := rops c6
noncomputable def c7 : Code := cr c5
noncomputable def c8 : Code := cl c7
noncomputable def c9 : Code := cl c8
noncomputable def o3 : Array Oper := rops c9
noncomputable def c10 : Code := cr c8
noncomputable def c11 : Code := cr c7
noncomputable def c12 : Code := cr c2
noncomputable def c13 : Code := cl c12
noncomputable def c14 : Code := cl c13
noncomputable def o4 : Array Oper := rops c14
noncomputable def c15 : Code := cr c13
noncomputable def c16 : Code := cl c15
noncomputable def o5 : Array Oper := rops c16
noncomputable def c17 : Code := cr c15
noncomputable def c18 : Code := cl c17
noncomputable def c19 : Code := cl c18
noncomputable def o6 : Array Oper := rops c19
noncomputable def c20 : Code := cr c18
noncomputable def c21 : Code := cr c17
noncomputable def c22 : Code := cr c12
noncomputable def c23 : Code := cl c22
noncomputable def o7 : Array Oper := rops c23
noncomputable def c24 : Code := cr c22
noncomputable def c25 : Code := cl c24
noncomputable def c26 : Code := cl c25
noncomputable def o8 : Array Oper := rops c26
noncomputable def c27 : Code := cr c25
noncomputable def c28 : Code := cl c27
noncomputable def c29 : Code := cl c28
noncomputable def c30 : Code := cl c29
noncomputable def c31 : Code := cl c30
noncomputable def o9 : Array Oper := rops c31
noncomputable def c32 : Code := cr c30
noncomputable def c33 : Code := cl c32
noncomputable def c34 : Code := cr c32
noncomputable def c35 : Code := cr c29
noncomputable def c36 : Code := cl c35
noncomputable def c37 : Code := cl c36
noncomputable def c38 : Code := cl c37
noncomputable def o11 : Array Oper := rops c38
noncomputable def c39 : Code := cr c37
noncomputable def c40 : Code := cl c39
noncomputable def c41 : Code := cl c40
noncomputable def c42 : Code := cl c41
noncomputable def c43 : Code := cl c42
noncomputable def o12 : Array Oper := rops c43
noncomputable def c44 : Code := cr c42
noncomputable def c45 : Code := cl c44
noncomputable def c46 : Code := cr c44
noncomputable def c47 : Code := cr c41
noncomputable def c48 : Code := cl c47
noncomputable def c49 : Code := cl c48
noncomputable def c50 : Code := cl c49
noncomputable def o14 : Array Oper := rops c50
noncomputable def c51 : Code := cr c49
noncomputable def c52 : Code := cl c51
noncomputable def o15 : Array Oper := rops c52
noncomputable def c53 : Code := cr c51
noncomputable def c54 : Code := cr c47
noncomputable def o13 : Array Oper := rops c54
noncomputable def c55 : Code := cr c35
noncomputable def o10 : Array Oper := rops c55
noncomputable def c56 : Code := cr c24
noncomputable def c57 : Code := cl c56
noncomputable def o16 : Array Oper := rops c57
noncomputable def c58 : Code := cr c56
end F20
/-- The specification's 'Count'. -/
theorem rcount_ok {w₀ : World} {C : Nat → Nat} {a b : List Block} {va vb : Value} (hF : Lim w₀ C) (ha : RV w₀ (Mc C) a va) (hb : RV w₀ (Mc C) b vb) : Calls Try.prog 20 #[va, vb] w₀ (Ret fun v w' => v = .tuple #[.int .i64 (if countE a b ≠ 0 then 0 else countS a b : Nat), .int .i64 (countE a b)] ∧ Stp [] w₀ C w' C) := by
  have hF0 := hF
  have hT := Stp.refl [2, 3, 4, 5, 6, 7, 8, 9] w₀ (col1 C)
  replace hF := hF.col1
  replace ha : RV w₀ (Mc (col1 C)) a va := by rw [Mc_col1]; exact ha
  replace hb : RV w₀ (Mc (col1 C)) b vb := by rw [Mc_col1]; exact hb
  refine calls_start (c := F20.c0) (N := 60) [va, vb] Try.func20 (by kernel_rfl) (by kernel_rfl) (by kernel_rfl) ?_
  show Run _ _ _ _ [(0, va), (1, vb)] _ _
  refine run_seq (x := F20.c1) (y := F20.c2) (by kernel_rfl) ?_
  refine run_plain (id := 0) (ops := F20.o0) [(0, true), (1, true)] (by kernel_rfl) (by kernel_rfl) ?_
  refine yS (by kernel_rfl : opAt F20.o0 0 = some (some 4, .assign (.const (.int .i64 0)), none)) rfl rfl (fun w' hS => val_assign rfl) ?_
  refine yS (by kernel_rfl : opAt F20.o0 1 = some (some 5, .assign (.const (.int .i64 0)), none)) rfl rfl (fun w' hS => val_assign rfl) ?_
  refine Sch.nil ?_
  refine run_seq (x := F20.c3) (y := F20.c12) (by kernel_rfl) ?_
  refine run_seq (x := F20.c4) (y := F20.c5) (by kernel_rfl) ?_
  refine run_plain (id := 1) (ops := F20.o1) [(0, true), (1, false), (2, true)] (by kernel_rfl) (by kernel_rfl) ?_
  refine yS (by kernel_rfl : opAt F20.o1 0 = some (some 11, .move (.tmp 0), none)) rfl rfl (fun w' hS => val_move rfl) ?_
  refine cS (by kernel_rfl : opAt F20.o1 1 = some (some 12, .call { callee := .value (.func 22), args := #[(.tmp 11)], argTypes := #[39] }, none)) rfl rfl (ent Try.call22 rfl) (rcheck_ok hF ha) ?_
  rintro vw1 w1 ⟨rfl, hs⟩
  refine ⟨trivial, ?_⟩
  replace hF := hF.st hs
  replace hT := hT.trans hs (by simp)
  replace ha := ha.st hs (by first | decide | (simp <;> omega))
  replace hb := hb.st hs (by first | decide | (simp <;> omega))
  refine yS (by kernel_rfl : opAt F20.o1 2 = some (some 6, .assign (.tmp 12), none)) rfl rfl (fun w' hS => val_assign rfl) ?_
  refine Sch.nil ?_
  refine run_seq (x := F20.c6) (y := F20.c7) (by kernel_rfl) ?_
  refine run_plain (id := 2) (ops := F20.o2) [(0, true), (1, true)] (by kernel_rfl) (by kernel_rfl) ?_
  refine yS (by kernel_rfl : opAt F20.o2 0 = some (some 13, .move (.tmp 6), none)) rfl rfl (fun w' hS => val_move rfl) ?_
  refine yS (by kernel_rfl : opAt F20.o2 1 = some (some 14, .binOp .neq 31 (.tmp 13) (.const (.int .i64 0)) 31, none)) rfl rfl (fun w' hS => val_neq rfl rfl) ?_
  refine Sch.nil ?_
  refine run_if (x := F20.c8) (y := F20.c11) (o := .tmp 14) (by kernel_rfl) rfl (fun h14 => ?_) (fun h14 => ?_)
  · skip
    refine run_seq (x := F20.c9) (y := F20.c10) (by kernel_rfl) ?_
    refine run_plain (id := 3) (ops := F20.o3) [(0, true), (1, true), (2, true)] (by kernel_rfl) (by kernel_rfl) ?_
    refine yS (by kernel_rfl : opAt F20.o3 0 = some (some 15, .move (.tmp 6), none)) rfl rfl (fun w' hS => val_move rfl) ?_
    refine yS (by kernel_rfl : opAt F20.o3 1 = some (some 4, .assign (.const (.int .i64 0)), none)) rfl rfl (fun w' hS => val_assign rfl) ?_
    refine yS (by kernel_rfl : opAt F20.o3 2 = some (some 5, .assign (.tmp 15), none)) rfl rfl (fun w' hS => val_assign rfl) ?_
    refine Sch.nil ?_
    refine run_ret2 (by kernel_rfl) Try.func20 Try.results20 rfl rfl ?_
    have hout := hT.out1 (by decide)
    exact ⟨by unfold countE; rw [if_pos h14]; simp only [if_pos h14]; rfl, hout⟩
  · skip
    have hza : checkS a = 0 := by simpa using h14
    have hta := checkS_total hza
    refine run_skip (by kernel_rfl) ?_
    refine run_seq (x := F20.c13) (y := F20.c22) (by kernel_rfl) ?_
    refine run_seq (x := F20.c14) (y := F20.c15) (by kernel_rfl) ?_
    refine run_plain (id := 4) (ops := F20.o4) [(0, true), (1, false), (2, true)] (by kernel_rfl) (by kernel_rfl) ?_
    refine yS (by kernel_rfl : opAt F20.o4 0 = some (some 16, .move (.tmp 1), none)) rfl rfl (fun w' hS => val_move rfl) ?_
    refine cS (by kernel_rfl : opAt F20.o4 1 = some (some 17, .call { callee := .value (.func 22), args := #[(.tmp 16)], argTypes := #[39] }, none)) rfl rfl (ent Try.call22 rfl) (rcheck_ok hF hb) ?_
    rintro vw2 w2 ⟨rfl, hs⟩
    refine ⟨trivial, ?_⟩
    replace hF := hF.st hs
    replace hT := hT.trans hs (by simp)
    replace ha := ha.st hs (by first | decide | (simp <;> omega))
    replace hb := hb.st hs (by first | decide | (simp <;> omega))
    refine yS (by kernel_rfl : opAt F20.o4 2 = some (some 7, .assign (.tmp 17), none)) rfl rfl (fun w' hS => val_assign rfl) ?_
    refine Sch.nil ?_
    refine run_seq (x := F20.c16) (y := F20.c17) (by kernel_rfl) ?_
    refine run_plain (id := 5) (ops := F20.o5) [(0, true), (1, true)] (by kernel_rfl) (by kernel_rfl) ?_
    refine yS (by kernel_rfl : opAt F20.o5 0 = some (some 18, .move (.tmp 7), none)) rfl rfl (fun w' hS => val_move rfl) ?_
    refine yS (by kernel_rfl : opAt F20.o5 1 = some (some 19, .binOp .neq 31 (.tmp 18) (.const (.int .i64 0)) 31, none)) rfl rfl (fun w' hS => val_neq rfl rfl) ?_
    refine Sch.nil ?_
    refine run_if (x := F20.c18) (y := F20.c21) (o := .tmp 19) (by kernel_rfl) rfl (fun h19 => ?_) (fun h19 => ?_)
    · skip
      refine run_seq (x := F20.c19) (y := F20.c20) (by kernel_rfl) ?_
      refine run_plain (id := 6) (ops := F20.o6) [(0, true), (1, true), (2, true)] (by kernel_rfl) (by kernel_rfl) ?_
      refine yS (by kernel_rfl : opAt F20.o6 0 = some (some 20, .move (.tmp 7), none)) rfl rfl (fun w' hS => val_move rfl) ?_
      refine yS (by kernel_rfl : opAt F20.o6 1 = some (some 4, .assign (.const (.int .i64 0)), none)) rfl rfl (fun w' hS => val_assign rfl) ?_
      refine yS (by kernel_rfl : opAt F20.o6 2 = some (some 5, .assign (.tmp 20), none)) rfl rfl (fun w' hS => val_assign rfl) ?_
      refine Sch.nil ?_
      refine run_ret2 (by kernel_rfl) Try.func20 Try.results20 rfl rfl ?_
      have hout := hT.out1 (by decide)
      exact ⟨by unfold countE; rw [if_neg h14, if_pos h19]; rfl, hout⟩
    · skip
      have hzb : checkS b = 0 := by simpa using h19
      have htb := checkS_total hzb
      refine run_skip (by kernel_rfl) ?_
      refine run_seq (x := F20.c23) (y := F20.c24) (by kernel_rfl) ?_
      refine run_plain (id := 7) (ops := F20.o7) [(0, true)] (by kernel_rfl) (by kernel_rfl) ?_
      refine yS (by kernel_rfl : opAt F20.o7 0 = some (some 8, .assign (.const (.int .i64 0)), none)) rfl rfl (fun w' hS => val_assign rfl) ?_
      refine Sch.nil ?_
      refine run_seq (x := F20.c25) (y := F20.c56) (by kernel_rfl) ?_
      refine run_seq (x := F20.c26) (y := F20.c27) (by kernel_rfl) ?_
      refine run_plain (id := 8) (ops := F20.o8) [(0, true)] (by kernel_rfl) (by kernel_rfl) ?_
      refine yS (by kernel_rfl : opAt F20.o8 0 = some (some 9, .assign (.const (.int .i64 0)), none)) rfl rfl (fun w' hS => val_assign rfl) ?_
      refine Sch.nil ?_
      refine run_block (x := F20.c28) (id := 0) (by kernel_rfl) ?_
      
      refine run_loop (ι := Nat × (Nat → Nat)) (I := fun x w => x.1 ≤ a.length ∧ Lim w x.2 ∧ Stp [2, 3, 4, 5, 6, 7, 8, 9] w₀ (col1 C) w x.2 ∧ RV w (Mc x.2) a va ∧ RV w (Mc x.2) b vb) (e := fun x => [(0, va), (1, vb), (8, .int .i64 ((a.take x.1).foldl (cnt2 b) 0 : Nat)), (9, .int .i64 x.1)]) (m := fun x => a.length - x.1) (x₀ := (0, col1 C)) (body := F20.c29) (by kernel_rfl) (sub_cons 0 rfl rfl (sub_cons 1 rfl rfl (sub_cons 8 rfl rfl (sub_cons 9 rfl rfl (sub_nil _))))) ?_ ?_
      · exact ⟨Nat.zero_le _, hF, hT, ha, hb⟩
      intro ⟨i, C1⟩ w3 hI next
      obtain ⟨hi, hF, hT, ha, hb⟩ := hI
      try simp only at hi hF hT ha hb
      have next1 := next
      clear next
      show Run _ _ _ _ [(0, va), (1, vb), (8, .int .i64 ((a.take i).foldl (cnt2 b) 0 : Nat)), (9, .int .i64 i)] _ _
      have hle := ha.le
      have hle2 := hb.le
      refine run_seq (x := F20.c30) (y := F20.c35) (by kernel_rfl) ?_
      refine run_seq (x := F20.c31) (y := F20.c32) (by kernel_rfl) ?_
      refine run_plain (id := 9) (ops := F20.o9) [(0, true), (1, true), (2, true), (3, true)] (by kernel_rfl) (by kernel_rfl) ?_
      refine yS (by kernel_rfl : opAt F20.o9 0 = some (some 21, .move (.tmp 9), none)) rfl rfl (fun w' hS => val_move rfl) ?_
      refine yS (by kernel_rfl : opAt F20.o9 1 = some (some 22, .move (.tmp 0), none)) rfl rfl (fun w' hS => val_move rfl) ?_
      refine yS (by kernel_rfl : opAt F20.o9 2 = some (some 23, .call { callee := .builtin .len, args := #[(.tmp 22)], argTypes := #[39] }, none)) rfl rfl (fun w' hS => ha.lenV rfl Try.underlying39 w' ) ?_
      refine yS (by kernel_rfl : opAt F20.o9 3 = some (some 24, .binOp .lss 3 (.tmp 21) (.tmp 23) 3, none)) rfl rfl (fun w' hS => val_lss rfl rfl) ?_
      refine Sch.nil ?_
      refine run_if (x := F20.c33) (y := F20.c34) (o := .tmp 24) (by kernel_rfl) rfl (fun h24 => ?_) (fun h24 => ?_)
      · skip
        have hia : i < a.length := by omega
        refine run_skip (by kernel_rfl) ?_
        refine run_seq (x := F20.c36) (y := F20.c55) (by kernel_rfl) ?_
        refine run_block (x := F20.c37) (id := 1) (by kernel_rfl) ?_
        refine run_seq (x := F20.c38) (y := F20.c39) (by kernel_rfl) ?_
        refine run_plain (id := 11) (ops := F20.o11) [(0, true)] (by kernel_rfl) (by kernel_rfl) ?_
        refine yS (by kernel_rfl : opAt F20.o11 0 = some (some 10, .assign (.const (.int .i64 0)), none)) rfl rfl (fun w' hS => val_assign rfl) ?_
        refine Sch.nil ?_
        refine run_block (x := F20.c40) (id := 2) (by kernel_rfl) ?_
        
        refine run_loop (ι := Nat × (Nat → Nat)) (I := fun x w => x.1 ≤ b.length ∧ Lim w x.2 ∧ Stp [2, 3, 4, 5, 6, 7, 8, 9] w₀ (col1 C) w x.2 ∧ RV w (Mc x.2) a va ∧ RV w (Mc x.2) b vb) (e := fun x => [(0, va), (1, vb), (8, .int .i64 ((b.take x.1).foldl (cnt3 a[i]) ((a.take i).foldl (cnt2 b) 0) : Nat)), (9, .int .i64 i), (10, .int .i64 x.1)]) (m := fun x => b.length - x.1) (x₀ := (0, C1)) (body := F20.c41) (by kernel_rfl) (sub_cons 0 rfl rfl (sub_cons 1 rfl rfl (sub_cons 8 rfl rfl (sub_cons 9 rfl rfl (sub_cons 10 rfl rfl (sub_nil _)))))) ?_ ?_
        · exact ⟨Nat.zero_le _, hF, hT, ha, hb⟩
        intro ⟨k, C2⟩ w4 hI next
        obtain ⟨hk, hF, hT, ha, hb⟩ := hI
        try simp only at hk hF hT ha hb
        have next2 := next
        clear next
        show Run _ _ _ _ [(0, va), (1, vb), (8, .int .i64 ((b.take k).foldl (cnt3 a[i]) ((a.take i).foldl (cnt2 b) 0) : Nat)), (9, .int .i64 i), (10, .int .i64 k)] _ _
        have q1 := cnt1_le b (a.take i) 0
        have q3 := Nat.mul_le_mul (totalN_take a i) (Nat.le_refl (totalN b))
        have q5 := Nat.mul_le_mul hta htb
        have q2 := cnt2_le a[i] (b.take k) ((a.take i).foldl (cnt2 b) 0)
        have q7 : (b.take k).foldl (cnt3 a[i]) ((a.take i).foldl (cnt2 b) 0) ≤ 16384 := by
          have e : cnt2 (b.take k) ((a.take i).foldl (cnt2 b) 0) a[i] = (b.take k).foldl (cnt3 a[i]) ((a.take i).foldl (cnt2 b) 0) := rfl
          have q9 : totalN (b.take k) ≤ 64 := Nat.le_trans (totalN_take b k) htb
          have q10 := Nat.mul_le_mul (Nat.le_trans (ids_le hia) hta) q9
          omega
        refine run_seq (x := F20.c42) (y := F20.c47) (by kernel_rfl) ?_
        refine run_seq (x := F20.c43) (y := F20.c44) (by kernel_rfl) ?_
        refine run_plain (id := 12) (ops := F20.o12) [(0, true), (1, true), (2, true), (3, true)] (by kernel_rfl) (by kernel_rfl) ?_
        refine yS (by kernel_rfl : opAt F20.o12 0 = some (some 27, .move (.tmp 10), none)) rfl rfl (fun w' hS => val_move rfl) ?_
        refine yS (by kernel_rfl : opAt F20.o12 1 = some (some 28, .move (.tmp 1), none)) rfl rfl (fun w' hS => val_move rfl) ?_
        refine yS (by kernel_rfl : opAt F20.o12 2 = some (some 29, .call { callee := .builtin .len, args := #[(.tmp 28)], argTypes := #[39] }, none)) rfl rfl (fun w' hS => hb.lenV rfl Try.underlying39 w' ) ?_
        refine yS (by kernel_rfl : opAt F20.o12 3 = some (some 30, .binOp .lss 3 (.tmp 27) (.tmp 29) 3, none)) rfl rfl (fun w' hS => val_lss rfl rfl) ?_
        refine Sch.nil ?_
        refine run_if (x := F20.c45) (y := F20.c46) (o := .tmp 30) (by kernel_rfl) rfl (fun h30 => ?_) (fun h30 => ?_)
        · skip
          have hkb : k < b.length := by omega
          refine run_skip (by kernel_rfl) ?_
          refine run_seq (x := F20.c48) (y := F20.c54) (by kernel_rfl) ?_
          refine run_block (x := F20.c49) (id := 3) (by kernel_rfl) ?_
          refine run_seq (x := F20.c50) (y := F20.c51) (by kernel_rfl) ?_
          refine run_draw (id := 14) (ops := F20.o14) [] (C2) [(0, true), (1, true), (2, true), (3, true), (4, true), (5, true), (6, true), (7, true), (8, true), (9, true), (10, true)] Try_mixed (by kernel_rfl) (by kernel_rfl) (by kernel_rfl) ?_
          intro w5 hs
          replace hF := hF.st hs
          replace hT := hT.trans hs (by simp)
          replace ha := ha.st hs (by first | decide | (simp <;> omega))
          replace hb := hb.st hs (by first | decide | (simp <;> omega))
          refine yS (by kernel_rfl : opAt F20.o14 0 = some (some 33, .move (.tmp 0), none)) rfl rfl (fun w' hS => val_move rfl) ?_
          refine yS (by kernel_rfl : opAt F20.o14 1 = some (some 34, .move (.tmp 9), none)) rfl rfl (fun w' hS => val_move rfl) ?_
          refine iS (e := 44) (by kernel_rfl : opAt F20.o14 2 = some (some 35, .indexAddr 39 (.tmp 33) (.tmp 34), none)) rfl rfl ha rfl (by kernel_rfl) rfl (by omega) (by omega) ?_
          intro b35 o35 h35
          try simp only [Int.toNat_natCast] at h35
          have h36 := RA.hash h35
          refine yS (by kernel_rfl : opAt F20.o14 3 = some (some 36, .fieldAddr 44 (.tmp 35) 0, none)) rfl rfl (fun w' hS => val_fieldAddr (off := 0) (by kernel_rfl) rfl) ?_
          refine lS (by kernel_rfl : opAt F20.o14 4 = some (some 37, .load 42 (.tmp 36), none)) rfl rfl (fun w' hS => h36.stay hS (by first | decide | (simp <;> omega))) h36 (by kernel_rfl) rfl rfl ?_
          intro v37 g37
          obtain rfl := rv_num.1 g37
          refine yS (by kernel_rfl : opAt F20.o14 5 = some (some 38, .move (.tmp 1), none)) rfl rfl (fun w' hS => val_move rfl) ?_
          refine yS (by kernel_rfl : opAt F20.o14 6 = some (some 39, .move (.tmp 10), none)) rfl rfl (fun w' hS => val_move rfl) ?_
          refine iS (e := 44) (by kernel_rfl : opAt F20.o14 7 = some (some 40, .indexAddr 39 (.tmp 38) (.tmp 39), none)) rfl rfl hb rfl (by kernel_rfl) rfl (by omega) (by omega) ?_
          intro b40 o40 h40
          try simp only [Int.toNat_natCast] at h40
          have h41 := RA.hash h40
          refine yS (by kernel_rfl : opAt F20.o14 8 = some (some 41, .fieldAddr 44 (.tmp 40) 0, none)) rfl rfl (fun w' hS => val_fieldAddr (off := 0) (by kernel_rfl) rfl) ?_
          refine lS (by kernel_rfl : opAt F20.o14 9 = some (some 42, .load 42 (.tmp 41), none)) rfl rfl (fun w' hS => h41.stay hS (by first | decide | (simp <;> omega))) h41 (by kernel_rfl) rfl rfl ?_
          intro v42 g42
          obtain rfl := rv_num.1 g42
          refine yS (by kernel_rfl : opAt F20.o14 10 = some (some 43, .binOp .eql 42 (.tmp 37) (.tmp 42) 42, none)) rfl rfl (fun w' hS => val_eql rfl rfl) ?_
          refine Sch.nil ?_
          refine run_if (x := F20.c52) (y := F20.c53) (o := .tmp 43) (by kernel_rfl) rfl (fun h43 => ?_) (fun h43 => ?_)
          · skip
            refine run_draw (id := 15) (ops := F20.o15) [] (C2) [(0, true), (1, true), (2, true), (3, true), (4, true), (5, true), (6, true), (7, true), (8, true), (9, true), (10, true), (11, true), (12, true), (13, true), (14, true), (15, true)] Try_mixed (by kernel_rfl) (by kernel_rfl) (by kernel_rfl) ?_
            intro w6 hs
            replace hF := hF.st hs
            replace hT := hT.trans hs (by simp)
            replace ha := ha.st hs (by first | decide | (simp <;> omega))
            replace hb := hb.st hs (by first | decide | (simp <;> omega))
            replace h35 := h35.st hs (by first | decide | (simp <;> omega))
            replace h36 := h36.st hs (by first | decide | (simp <;> omega))
            replace h40 := h40.st hs (by first | decide | (simp <;> omega))
            replace h41 := h41.st hs (by first | decide | (simp <;> omega))
            refine yS (by kernel_rfl : opAt F20.o15 0 = some (some 44, .move (.tmp 8), none)) rfl rfl (fun w' hS => val_move rfl) ?_
            refine yS (by kernel_rfl : opAt F20.o15 1 = some (some 45, .move (.tmp 0), none)) rfl rfl (fun w' hS => val_move rfl) ?_
            refine yS (by kernel_rfl : opAt F20.o15 2 = some (some 46, .move (.tmp 9), none)) rfl rfl (fun w' hS => val_move rfl) ?_
            refine iS (e := 44) (by kernel_rfl : opAt F20.o15 3 = some (some 47, .indexAddr 39 (.tmp 45) (.tmp 46), none)) rfl rfl ha rfl (by kernel_rfl) rfl (by omega) (by omega) ?_
            intro b47 o47 h47
            try simp only [Int.toNat_natCast] at h47
            have h48 := RA.ids h47
            refine yS (by kernel_rfl : opAt F20.o15 4 = some (some 48, .fieldAddr 44 (.tmp 47) 1, none)) rfl rfl (fun w' hS => val_fieldAddr (off := 1) (by kernel_rfl) rfl) ?_
            refine lS (by kernel_rfl : opAt F20.o15 5 = some (some 49, .load 22 (.tmp 48), none)) rfl rfl (fun w' hS => h48.stay hS (by first | decide | (simp <;> omega))) h48 (by kernel_rfl) rfl rfl ?_
            intro v49 g49
            refine yS (by kernel_rfl : opAt F20.o15 6 = some (some 50, .call { callee := .builtin .len, args := #[(.tmp 49)], argTypes := #[22] }, none)) rfl rfl (fun w' hS => g49.lenV rfl Try.underlying22 w' ) ?_
            refine yS (by kernel_rfl : opAt F20.o15 7 = some (some 51, .move (.tmp 1), none)) rfl rfl (fun w' hS => val_move rfl) ?_
            refine yS (by kernel_rfl : opAt F20.o15 8 = some (some 52, .move (.tmp 10), none)) rfl rfl (fun w' hS => val_move rfl) ?_
            refine iS (e := 44) (by kernel_rfl : opAt F20.o15 9 = some (some 53, .indexAddr 39 (.tmp 51) (.tmp 52), none)) rfl rfl hb rfl (by kernel_rfl) rfl (by omega) (by omega) ?_
            intro b53 o53 h53
            try simp only [Int.toNat_natCast] at h53
            have h54 := RA.ids h53
            refine yS (by kernel_rfl : opAt F20.o15 10 = some (some 54, .fieldAddr 44 (.tmp 53) 1, none)) rfl rfl (fun w' hS => val_fieldAddr (off := 1) (by kernel_rfl) rfl) ?_
            refine lS (by kernel_rfl : opAt F20.o15 11 = some (some 55, .load 22 (.tmp 54), none)) rfl rfl (fun w' hS => h54.stay hS (by first | decide | (simp <;> omega))) h54 (by kernel_rfl) rfl rfl ?_
            intro v55 g55
            refine yS (by kernel_rfl : opAt F20.o15 12 = some (some 56, .call { callee := .builtin .len, args := #[(.tmp 55)], argTypes := #[22] }, none)) rfl rfl (fun w' hS => g55.lenV rfl Try.underlying22 w' ) ?_
            have q20 := Nat.mul_le_mul (Nat.le_trans (ids_le hia) hta) (Nat.le_trans (ids_le hkb) htb)
            have q21 : ((a[i].ids.length : Nat) : Int) * (b[k].ids.length : Nat) = ((a[i].ids.length * b[k].ids.length : Nat) : Int) := by simp
            refine yS (by kernel_rfl : opAt F20.o15 13 = some (some 57, .binOp .mul 3 (.tmp 50) (.tmp 56) 3, none)) rfl rfl (fun w' hS => val_is (val_muli rfl rfl (by rw [q21]; omega) (by rw [q21]; omega)) (congrArg (Value.int .i64) q21)) ?_
            refine yS (by kernel_rfl : opAt F20.o15 14 = some (some 58, .binOp .add 3 (.tmp 44) (.tmp 57) 3, none)) rfl rfl (fun w' hS => val_addi rfl rfl (by omega) (by omega)) ?_
            refine yS (by kernel_rfl : opAt F20.o15 15 = some (some 8, .assign (.tmp 58), none)) rfl rfl (fun w' hS => val_assign rfl) ?_
            refine Sch.nil ?_
            refine run_inBlock ?_
            refine run_plain (id := 13) (ops := F20.o13) [(0, true), (1, true), (2, true)] (by kernel_rfl) (by kernel_rfl) ?_
            refine yS (by kernel_rfl : opAt F20.o13 0 = some (some 31, .move (.tmp 10), none)) rfl rfl (fun w' hS => val_move rfl) ?_
            refine yS (by kernel_rfl : opAt F20.o13 1 = some (some 32, .binOp .add 3 (.tmp 31) (.const (.int .i64 1)) 3, none)) rfl rfl (fun w' hS => val_addi rfl rfl (by omega) (by omega)) ?_
            refine yS (by kernel_rfl : opAt F20.o13 2 = some (some 10, .assign (.tmp 32), none)) rfl rfl (fun w' hS => val_assign rfl) ?_
            refine Sch.nil ?_
            refine kp (sub_cons 0 rfl rfl (sub_cons 1 rfl rfl (sub_cons 8 rfl (eq_int (by simp only; rw [foldl_take _ _ _ k hkb]; simp only [cnt3, if_pos h43]; simp)) (sub_cons 9 rfl rfl (sub_cons 10 rfl (eq_int (by simp)) (sub_nil _)))))) (next2 (k + 1, C2) _ ⟨(by first | omega | (simp only; omega)), hF, hT, ha, hb⟩ (by first | omega | (simp only; omega)))
          · skip
            refine run_skip (by kernel_rfl) ?_
            refine run_inBlock ?_
            refine run_plain (id := 13) (ops := F20.o13) [(0, true), (1, true), (2, true)] (by kernel_rfl) (by kernel_rfl) ?_
            refine yS (by kernel_rfl : opAt F20.o13 0 = some (some 31, .move (.tmp 10), none)) rfl rfl (fun w' hS => val_move rfl) ?_
            refine yS (by kernel_rfl : opAt F20.o13 1 = some (some 32, .binOp .add 3 (.tmp 31) (.const (.int .i64 1)) 3, none)) rfl rfl (fun w' hS => val_addi rfl rfl (by omega) (by omega)) ?_
            refine yS (by kernel_rfl : opAt F20.o13 2 = some (some 10, .assign (.tmp 32), none)) rfl rfl (fun w' hS => val_assign rfl) ?_
            refine Sch.nil ?_
            refine kp (sub_cons 0 rfl rfl (sub_cons 1 rfl rfl (sub_cons 8 rfl (eq_int (by simp only; rw [foldl_take _ _ _ k hkb]; simp only [cnt3, if_neg h43])) (sub_cons 9 rfl rfl (sub_cons 10 rfl (eq_int (by simp)) (sub_nil _)))))) (next2 (k + 1, C2) _ ⟨(by first | omega | (simp only; omega)), hF, hT, ha, hb⟩ (by first | omega | (simp only; omega)))
        · skip
          obtain rfl : k = b.length := by omega
          refine run_exit (id := 2) (by kernel_rfl) rfl ?_
          refine run_inBlock ?_
          refine run_plain (id := 10) (ops := F20.o10) [(0, true), (1, true), (2, true)] (by kernel_rfl) (by kernel_rfl) ?_
          refine yS (by kernel_rfl : opAt F20.o10 0 = some (some 25, .move (.tmp 9), none)) rfl rfl (fun w' hS => val_move rfl) ?_
          refine yS (by kernel_rfl : opAt F20.o10 1 = some (some 26, .binOp .add 3 (.tmp 25) (.const (.int .i64 1)) 3, none)) rfl rfl (fun w' hS => val_addi rfl rfl (by omega) (by omega)) ?_
          refine yS (by kernel_rfl : opAt F20.o10 2 = some (some 9, .assign (.tmp 26), none)) rfl rfl (fun w' hS => val_assign rfl) ?_
          refine Sch.nil ?_
          refine kp (sub_cons 0 rfl rfl (sub_cons 1 rfl rfl (sub_cons 8 rfl (eq_int (by simp only [List.take_length]; rw [foldl_take _ _ _ i hia]; rfl)) (sub_cons 9 rfl (eq_int (by simp)) (sub_nil _))))) (next1 (i + 1, C2) _ ⟨(by first | omega | (simp only; omega)), hF, hT, ha, hb⟩ (by first | omega | (simp only; omega)))
      · skip
        obtain rfl : i = a.length := by omega
        refine run_exit (id := 0) (by kernel_rfl) rfl ?_
        refine run_seq (x := F20.c57) (y := F20.c58) (by kernel_rfl) ?_
        refine run_plain (id := 16) (ops := F20.o16) [(0, true), (1, true), (2, true)] (by kernel_rfl) (by kernel_rfl) ?_
        refine yS (by kernel_rfl : opAt F20.o16 0 = some (some 59, .move (.tmp 8), none)) rfl rfl (fun w' hS => val_move rfl) ?_
        refine yS (by kernel_rfl : opAt F20.o16 1 = some (some 4, .assign (.tmp 59), none)) rfl rfl (fun w' hS => val_assign rfl) ?_
        refine yS (by kernel_rfl : opAt F20.o16 2 = some (some 5, .assign (.const (.int .i64 0)), none)) rfl rfl (fun w' hS => val_assign rfl) ?_
        refine Sch.nil ?_
        refine run_ret2 (by kernel_rfl) Try.func20 Try.results20 rfl rfl ?_
        have hout := hT.out1 (by decide)
        exact ⟨by unfold countE; rw [if_neg h14, if_neg h19, hzb, List.take_length]; rfl, hout⟩
theorem agB_yes {la lb : List Block} {x y : Int} (h1 : (inS la x).isSome = true) (h2 : (inS lb y).isSome = true) : agB la lb x y = decide ((inS la x).getD 0 = (inS lb y).getD 0) := by
  unfold agB
  cases hp : inS la x with
  | none => rw [hp] at h1; cases h1
  | some p =>
    cases hq : inS lb y with
    | none => rw [hq] at h2; cases h2
    | some q => rfl
theorem agB_no1 {la lb : List Block} {x y : Int} (h1 : ¬ (inS la x).isSome = true) : agB la lb x y = false := by
  unfold agB
  cases hp : inS la x with
  | none => rfl
  | some p => rw [hp] at h1; exact absurd rfl h1
theorem agB_no2 {la lb : List Block} {x y : Int} (h1 : ¬ (inS lb y).isSome = true) : agB la lb x y = false := by
  unfold agB
  cases hq : inS lb y with
  | none => cases inS la x <;> rfl
  | some p => rw [hq] at h1; exact absurd rfl h1
namespace F46
noncomputable def c0 : Code := bodyOf Try.f46
noncomputable def c1 : Code := cl c0
noncomputable def o0 : Array Oper := rops c1
noncomputable def c2 : Code := cr c0
noncomputable def c3 : Code := cl c2
noncomputable def o1 : Array Oper := rops c3
noncomputable def c4 : Code := cr c2
noncomputable def c5 : Code := cl c4
noncomputable def c6 : Code := cl c5
noncomputable def o2 : Array Oper := rops c6
noncomputable def c7 : Code := cr c5
noncomputable def c8 : Code := cl c7
noncomputable def c9 : Code := cl c8
noncomputable def c10 : Code := cl c9
noncomputable def c11 : Code := cl c10
noncomputable def o3 : Array Oper := rops c11
noncomputable def c12 : Code := cr c10
noncomputable def c13 : Code := cl c12
noncomputable def c14 : Code := cr c12
noncomputable def c15 : Code := cr c9
noncomputable def c16 : Code := cl c15
noncomputable def c17 : Code := cl c16
noncomputable def c18 : Code := cl c17
noncomputable def o5 : Array Oper := rops c18
noncomputable def c19 : Code := cr c17
noncomputable def c20 : Code := cl c19
noncomputable def o6 : Array Oper := rops c20
noncomputable def c21 : Code := cr c19
noncomputable def c22 : Code := cl c21
noncomputable def o7 : Array Oper := rops c22
noncomputable def c23 : Code := cr c21
noncomputable def c24 : Code := cl c23
noncomputable def o8 : Array Oper := rops c24
noncomputable def c25 : Code := cr c23
noncomputable def c26 : Code := cr c15
noncomputable def o4 : Array Oper := rops c26
noncomputable def c27 : Code := cr c4
noncomputable def c28 : Code := cl c27
noncomputable def o9 : Array Oper := rops c28
noncomputable def c29 : Code := cr c27
end F46
/-- 'agreed'. -/
theorem agreed_ok {w₀ : World} {M : Nat → Prop} {a b : List (List Block)} {va vb : Value} (ha : RV w₀ M a va) (hb : RV w₀ M b vb) (hlen : a.length = b.length) (h8 : a.length ≤ 8) (p q : Int) : Calls Try.prog 46 #[va, vb, .int .i64 p, .int .i64 q] w₀ (Ret fun v w' => v = .int .i64 (agN a b p q a.length : Nat) ∧ w' = w₀) := by
  refine calls_start (c := F46.c0) (N := 53) [va, vb, .int .i64 p, .int .i64 q] Try.func46 (by kernel_rfl) (by kernel_rfl) (by kernel_rfl) ?_
  show Run _ _ _ _ [(0, va), (1, vb), (2, .int .i64 p), (3, .int .i64 q)] _ _
  refine run_seq (x := F46.c1) (y := F46.c2) (by kernel_rfl) ?_
  refine run_plain (id := 0) (ops := F46.o0) [(0, true)] (by kernel_rfl) (by kernel_rfl) ?_
  refine yS (by kernel_rfl : opAt F46.o0 0 = some (some 8, .assign (.const (.int .i64 0)), none)) rfl rfl (fun w' hS => val_assign rfl) ?_
  refine Sch.nil ?_
  refine run_seq (x := F46.c3) (y := F46.c4) (by kernel_rfl) ?_
  refine run_plain (id := 1) (ops := F46.o1) [(0, true)] (by kernel_rfl) (by kernel_rfl) ?_
  refine yS (by kernel_rfl : opAt F46.o1 0 = some (some 9, .assign (.const (.int .i64 0)), none)) rfl rfl (fun w' hS => val_assign rfl) ?_
  refine Sch.nil ?_
  refine run_seq (x := F46.c5) (y := F46.c27) (by kernel_rfl) ?_
  refine run_seq (x := F46.c6) (y := F46.c7) (by kernel_rfl) ?_
  refine run_plain (id := 2) (ops := F46.o2) [(0, true)] (by kernel_rfl) (by kernel_rfl) ?_
  refine yS (by kernel_rfl : opAt F46.o2 0 = some (some 10, .assign (.const (.int .i64 0)), none)) rfl rfl (fun w' hS => val_assign rfl) ?_
  refine Sch.nil ?_
  refine run_block (x := F46.c8) (id := 0) (by kernel_rfl) ?_
  
  refine run_loop (ι := Nat) (I := fun x w => x ≤ a.length ∧ w = w₀) (e := fun x => [(0, va), (1, vb), (2, .int .i64 p), (3, .int .i64 q), (9, .int .i64 (agN a b p q x : Nat)), (10, .int .i64 x)]) (m := fun x => a.length - x) (x₀ := 0) (body := F46.c9) (by kernel_rfl) (sub_cons 0 rfl rfl (sub_cons 1 rfl rfl (sub_cons 2 rfl rfl (sub_cons 3 rfl rfl (sub_cons 9 rfl rfl (sub_cons 10 rfl rfl (sub_nil _))))))) ?_ ?_
  · exact ⟨Nat.zero_le _, rfl⟩
  intro i w1 hI next
  obtain ⟨hi, rfl⟩ := hI
  try simp only at hi
  have next1 := next
  clear next
  show Run _ _ _ _ [(0, va), (1, vb), (2, .int .i64 p), (3, .int .i64 q), (9, .int .i64 (agN a b p q i : Nat)), (10, .int .i64 i)] _ _
  have hle := ha.le
  have hle2 := hb.le
  have hlt := agN_lt a b p q i
  have hpw : 2 ^ i ≤ 256 := Nat.pow_le_pow_right (n := 2) (by decide) (show i ≤ 8 by omega)
  refine run_seq (x := F46.c10) (y := F46.c15) (by kernel_rfl) ?_
  refine run_seq (x := F46.c11) (y := F46.c12) (by kernel_rfl) ?_
  refine run_plain (id := 3) (ops := F46.o3) [(0, true), (1, true), (2, true), (3, true)] (by kernel_rfl) (by kernel_rfl) ?_
  refine yS (by kernel_rfl : opAt F46.o3 0 = some (some 15, .move (.tmp 10), none)) rfl rfl (fun w' hS => val_move rfl) ?_
  refine yS (by kernel_rfl : opAt F46.o3 1 = some (some 16, .move (.tmp 0), none)) rfl rfl (fun w' hS => val_move rfl) ?_
  refine yS (by kernel_rfl : opAt F46.o3 2 = some (some 17, .call { callee := .builtin .len, args := #[(.tmp 16)], argTypes := #[28] }, none)) rfl rfl (fun w' hS => ha.lenV rfl Try.underlying28 w' ) ?_
  refine yS (by kernel_rfl : opAt F46.o3 3 = some (some 18, .binOp .lss 3 (.tmp 15) (.tmp 17) 3, none)) rfl rfl (fun w' hS => val_lss rfl rfl) ?_
  refine Sch.nil ?_
  refine run_if (x := F46.c13) (y := F46.c14) (o := .tmp 18) (by kernel_rfl) rfl (fun h18 => ?_) (fun h18 => ?_)
  · skip
    have hia : i < a.length := by omega
    have hib : i < b.length := by omega
    have hga : a.getD i [] = a[i] := by simp [List.getD, hia]
    have hgb : b.getD i [] = b[i] := by simp [List.getD, hib]
    refine run_skip (by kernel_rfl) ?_
    refine run_seq (x := F46.c16) (y := F46.c26) (by kernel_rfl) ?_
    refine run_block (x := F46.c17) (id := 1) (by kernel_rfl) ?_
    refine run_seq (x := F46.c18) (y := F46.c19) (by kernel_rfl) ?_
    refine run_plain (id := 5) (ops := F46.o5) [(0, true), (1, true), (2, true), (3, false), (4, true), (5, false), (6, true), (7, true), (8, true), (9, true), (10, true)] (by kernel_rfl) (by kernel_rfl) ?_
    refine yS (by kernel_rfl : opAt F46.o5 0 = some (some 22, .move (.tmp 0), none)) rfl rfl (fun w' hS => val_move rfl) ?_
    refine yS (by kernel_rfl : opAt F46.o5 1 = some (some 23, .move (.tmp 10), none)) rfl rfl (fun w' hS => val_move rfl) ?_
    refine iS (e := 39) (by kernel_rfl : opAt F46.o5 2 = some (some 24, .indexAddr 28 (.tmp 22) (.tmp 23), none)) rfl rfl ha rfl (by kernel_rfl) rfl (by omega) (by omega) ?_
    intro b24 o24 h24
    try simp only [Int.toNat_natCast] at h24
    refine lN (by kernel_rfl : opAt F46.o5 3 = some (some 25, .load 39 (.tmp 24), none)) rfl rfl trivial h24 (by kernel_rfl) rfl rfl ?_
    intro v25 g25
    refine yS (by kernel_rfl : opAt F46.o5 4 = some (some 26, .move (.tmp 2), none)) rfl rfl (fun w' hS => val_move rfl) ?_
    refine cS (by kernel_rfl : opAt F46.o5 5 = some (some 27, .call { callee := .value (.func 57), args := #[(.tmp 25), (.tmp 26)], argTypes := #[39, 3] }, none)) rfl rfl (ent Try.call57 rfl) (in_ok g25 _) ?_
    rintro vw2 w2 ⟨rfl, rfl⟩
    refine ⟨trivial, ?_⟩
    refine yS (by kernel_rfl : opAt F46.o5 6 = some (some 21, .move (.tmp 27), none)) rfl rfl (fun w' hS => val_move rfl) ?_
    refine yS (by kernel_rfl : opAt F46.o5 7 = some (some 28, .extract (.tmp 21) 0, none)) rfl rfl (fun w' hS => val_extract rfl rfl) ?_
    refine yS (by kernel_rfl : opAt F46.o5 8 = some (some 29, .extract (.tmp 21) 1, none)) rfl rfl (fun w' hS => val_extract rfl rfl) ?_
    refine yS (by kernel_rfl : opAt F46.o5 9 = some (some 11, .assign (.tmp 28), none)) rfl rfl (fun w' hS => val_assign rfl) ?_
    refine yS (by kernel_rfl : opAt F46.o5 10 = some (some 12, .assign (.tmp 29), none)) rfl rfl (fun w' hS => val_assign rfl) ?_
    refine Sch.nil ?_
    refine run_seq (x := F46.c20) (y := F46.c21) (by kernel_rfl) ?_
    refine run_plain (id := 6) (ops := F46.o6) [(0, true), (1, true), (2, true), (3, false), (4, true), (5, false), (6, true), (7, true), (8, true), (9, true), (10, true)] (by kernel_rfl) (by kernel_rfl) ?_
    refine yS (by kernel_rfl : opAt F46.o6 0 = some (some 31, .move (.tmp 1), none)) rfl rfl (fun w' hS => val_move rfl) ?_
    refine yS (by kernel_rfl : opAt F46.o6 1 = some (some 32, .move (.tmp 10), none)) rfl rfl (fun w' hS => val_move rfl) ?_
    refine iS (e := 39) (by kernel_rfl : opAt F46.o6 2 = some (some 33, .indexAddr 28 (.tmp 31) (.tmp 32), none)) rfl rfl hb rfl (by kernel_rfl) rfl (by omega) (by omega) ?_
    intro b33 o33 h33
    try simp only [Int.toNat_natCast] at h33
    refine lN (by kernel_rfl : opAt F46.o6 3 = some (some 34, .load 39 (.tmp 33), none)) rfl rfl trivial h33 (by kernel_rfl) rfl rfl ?_
    intro v34 g34
    refine yS (by kernel_rfl : opAt F46.o6 4 = some (some 35, .move (.tmp 3), none)) rfl rfl (fun w' hS => val_move rfl) ?_
    refine cS (by kernel_rfl : opAt F46.o6 5 = some (some 36, .call { callee := .value (.func 57), args := #[(.tmp 34), (.tmp 35)], argTypes := #[39, 3] }, none)) rfl rfl (ent Try.call57 rfl) (in_ok g34 _) ?_
    rintro vw3 w3 ⟨rfl, rfl⟩
    refine ⟨trivial, ?_⟩
    refine yS (by kernel_rfl : opAt F46.o6 6 = some (some 30, .move (.tmp 36), none)) rfl rfl (fun w' hS => val_move rfl) ?_
    refine yS (by kernel_rfl : opAt F46.o6 7 = some (some 37, .extract (.tmp 30) 0, none)) rfl rfl (fun w' hS => val_extract rfl rfl) ?_
    refine yS (by kernel_rfl : opAt F46.o6 8 = some (some 38, .extract (.tmp 30) 1, none)) rfl rfl (fun w' hS => val_extract rfl rfl) ?_
    refine yS (by kernel_rfl : opAt F46.o6 9 = some (some 13, .assign (.tmp 37), none)) rfl rfl (fun w' hS => val_assign rfl) ?_
    refine yS (by kernel_rfl : opAt F46.o6 10 = some (some 14, .assign (.tmp 38), none)) rfl rfl (fun w' hS => val_assign rfl) ?_
    refine Sch.nil ?_
    refine run_seq (x := F46.c22) (y := F46.c23) (by kernel_rfl) ?_
    by_cases hA : (inS a[i] p).isSome = true
    · skip
      by_cases hB : (inS b[i] q).isSome = true
      · skip
        refine run_plain (id := 7) (ops := F46.o7) [(0, true), (1, true), (2, true), (3, true), (4, true), (5, true), (6, true), (7, true), (8, true)] (by kernel_rfl) (by kernel_rfl) ?_
        refine yS (by kernel_rfl : opAt F46.o7 0 = some (some 39, .move (.tmp 12), none)) rfl rfl (fun w' hS => val_T (val_move rfl) hA) ?_
        refine yS (by kernel_rfl : opAt F46.o7 1 = some (some 40, .move (.tmp 39), none)) rfl rfl (fun w' hS => val_move rfl) ?_
        refine yS (by kernel_rfl : opAt F46.o7 2 = some (some 41, .move (.tmp 14), (some (1, true)))) rfl rfl (fun w' hS => val_T (val_move rfl) hB) ?_
        refine yS (by kernel_rfl : opAt F46.o7 3 = some (some 42, .pick (.tmp 40) (.tmp 41) (.const (.bool false)), none)) rfl rfl (fun w' hS => val_pick_t rfl rfl) ?_
        refine yS (by kernel_rfl : opAt F46.o7 4 = some (some 43, .move (.tmp 42), none)) rfl rfl (fun w' hS => val_move rfl) ?_
        refine yS (by kernel_rfl : opAt F46.o7 5 = some (some 44, .move (.tmp 11), (some (4, true)))) rfl rfl (fun w' hS => val_move rfl) ?_
        refine yS (by kernel_rfl : opAt F46.o7 6 = some (some 45, .move (.tmp 13), (some (4, true)))) rfl rfl (fun w' hS => val_move rfl) ?_
        refine yS (by kernel_rfl : opAt F46.o7 7 = some (some 46, .binOp .eql 42 (.tmp 44) (.tmp 45) 42, (some (4, true)))) rfl rfl (fun w' hS => val_eql rfl rfl) ?_
        refine yS (by kernel_rfl : opAt F46.o7 8 = some (some 47, .pick (.tmp 43) (.tmp 46) (.const (.bool false)), none)) rfl rfl (fun w' hS => val_pick_t rfl rfl) ?_
        refine Sch.nil ?_
        refine run_if (x := F46.c24) (y := F46.c25) (o := .tmp 47) (by kernel_rfl) rfl (fun h47 => ?_) (fun h47 => ?_)
        · skip
          refine run_plain (id := 8) (ops := F46.o8) [(0, true), (1, true), (2, true), (3, true), (4, true)] (by kernel_rfl) (by kernel_rfl) ?_
          refine yS (by kernel_rfl : opAt F46.o8 0 = some (some 48, .move (.tmp 9), none)) rfl rfl (fun w' hS => val_move rfl) ?_
          refine yS (by kernel_rfl : opAt F46.o8 1 = some (some 49, .move (.tmp 10), none)) rfl rfl (fun w' hS => val_move rfl) ?_
          have hi8 : i < 8 := by omega
          refine yS (by kernel_rfl : opAt F46.o8 2 = some (some 50, .binOp .shl 3 (.const (.int .i64 1)) (.tmp 49) 3, none)) rfl rfl (fun w' hS => val_shlE (r := ((2 ^ i : Nat) : Int)) rfl rfl (by omega) (shl1N (by omega))) ?_
          refine yS (by kernel_rfl : opAt F46.o8 3 = some (some 51, .binOp .add 3 (.tmp 48) (.tmp 50) 3, none)) rfl rfl (fun w' hS => val_addi rfl rfl (by omega) (by omega)) ?_
          refine yS (by kernel_rfl : opAt F46.o8 4 = some (some 9, .assign (.tmp 51), none)) rfl rfl (fun w' hS => val_assign rfl) ?_
          refine Sch.nil ?_
          refine run_inBlock ?_
          refine run_plain (id := 4) (ops := F46.o4) [(0, true), (1, true), (2, true)] (by kernel_rfl) (by kernel_rfl) ?_
          refine yS (by kernel_rfl : opAt F46.o4 0 = some (some 19, .move (.tmp 10), none)) rfl rfl (fun w' hS => val_move rfl) ?_
          refine yS (by kernel_rfl : opAt F46.o4 1 = some (some 20, .binOp .add 3 (.tmp 19) (.const (.int .i64 1)) 3, none)) rfl rfl (fun w' hS => val_addi rfl rfl (by omega) (by omega)) ?_
          refine yS (by kernel_rfl : opAt F46.o4 2 = some (some 10, .assign (.tmp 20), none)) rfl rfl (fun w' hS => val_assign rfl) ?_
          refine Sch.nil ?_
          refine kp (sub_cons 0 rfl rfl (sub_cons 1 rfl rfl (sub_cons 2 rfl rfl (sub_cons 3 rfl rfl (sub_cons 9 rfl (eq_int (by simp only [agN]; rw [hga, hgb, if_pos (by rw [agB_yes hA hB]; exact decide_eq_true h47)]; simp)) (sub_cons 10 rfl (eq_int (by simp)) (sub_nil _))))))) (next1 (i + 1) _ ⟨(by first | omega | (simp only; omega)), rfl⟩ (by first | omega | (simp only; omega)))
        · skip
          refine run_skip (by kernel_rfl) ?_
          refine run_inBlock ?_
          refine run_plain (id := 4) (ops := F46.o4) [(0, true), (1, true), (2, true)] (by kernel_rfl) (by kernel_rfl) ?_
          refine yS (by kernel_rfl : opAt F46.o4 0 = some (some 19, .move (.tmp 10), none)) rfl rfl (fun w' hS => val_move rfl) ?_
          refine yS (by kernel_rfl : opAt F46.o4 1 = some (some 20, .binOp .add 3 (.tmp 19) (.const (.int .i64 1)) 3, none)) rfl rfl (fun w' hS => val_addi rfl rfl (by omega) (by omega)) ?_
          refine yS (by kernel_rfl : opAt F46.o4 2 = some (some 10, .assign (.tmp 20), none)) rfl rfl (fun w' hS => val_assign rfl) ?_
          refine Sch.nil ?_
          refine kp (sub_cons 0 rfl rfl (sub_cons 1 rfl rfl (sub_cons 2 rfl rfl (sub_cons 3 rfl rfl (sub_cons 9 rfl (eq_int (by simp only [agN]; rw [hga, hgb, if_neg (by rw [agB_yes hA hB, decide_eq_false h47]; decide)]; simp)) (sub_cons 10 rfl (eq_int (by simp)) (sub_nil _))))))) (next1 (i + 1) _ ⟨(by first | omega | (simp only; omega)), rfl⟩ (by first | omega | (simp only; omega)))
      · skip
        refine run_plain (id := 7) (ops := F46.o7) [(0, true), (1, true), (2, true), (3, true), (4, true), (5, true), (6, true), (7, true), (8, true)] (by kernel_rfl) (by kernel_rfl) ?_
        refine yS (by kernel_rfl : opAt F46.o7 0 = some (some 39, .move (.tmp 12), none)) rfl rfl (fun w' hS => val_T (val_move rfl) hA) ?_
        refine yS (by kernel_rfl : opAt F46.o7 1 = some (some 40, .move (.tmp 39), none)) rfl rfl (fun w' hS => val_move rfl) ?_
        refine yS (by kernel_rfl : opAt F46.o7 2 = some (some 41, .move (.tmp 14), (some (1, true)))) rfl rfl (fun w' hS => val_F (val_move rfl) hB) ?_
        refine yS (by kernel_rfl : opAt F46.o7 3 = some (some 42, .pick (.tmp 40) (.tmp 41) (.const (.bool false)), none)) rfl rfl (fun w' hS => val_pick_t rfl rfl) ?_
        refine yS (by kernel_rfl : opAt F46.o7 4 = some (some 43, .move (.tmp 42), none)) rfl rfl (fun w' hS => val_move rfl) ?_
        refine pS (by kernel_rfl : opAt F46.o7 5 = some (some 44, .move (.tmp 11), (some (4, true)))) rfl rfl ?_
        refine pS (by kernel_rfl : opAt F46.o7 6 = some (some 45, .move (.tmp 13), (some (4, true)))) rfl rfl ?_
        refine pS (by kernel_rfl : opAt F46.o7 7 = some (some 46, .binOp .eql 42 (.tmp 44) (.tmp 45) 42, (some (4, true)))) rfl rfl ?_
        refine yS (by kernel_rfl : opAt F46.o7 8 = some (some 47, .pick (.tmp 43) (.tmp 46) (.const (.bool false)), none)) rfl rfl (fun w' hS => val_pick_f rfl rfl) ?_
        refine Sch.nil ?_
        refine run_cond (x := F46.c24) (y := F46.c25) (o := .tmp 47) (b := false) (by kernel_rfl) rfl (fun h => by cases h) (fun _ => ?_)
        refine run_skip (by kernel_rfl) ?_
        refine run_inBlock ?_
        refine run_plain (id := 4) (ops := F46.o4) [(0, true), (1, true), (2, true)] (by kernel_rfl) (by kernel_rfl) ?_
        refine yS (by kernel_rfl : opAt F46.o4 0 = some (some 19, .move (.tmp 10), none)) rfl rfl (fun w' hS => val_move rfl) ?_
        refine yS (by kernel_rfl : opAt F46.o4 1 = some (some 20, .binOp .add 3 (.tmp 19) (.const (.int .i64 1)) 3, none)) rfl rfl (fun w' hS => val_addi rfl rfl (by omega) (by omega)) ?_
        refine yS (by kernel_rfl : opAt F46.o4 2 = some (some 10, .assign (.tmp 20), none)) rfl rfl (fun w' hS => val_assign rfl) ?_
        refine Sch.nil ?_
        refine kp (sub_cons 0 rfl rfl (sub_cons 1 rfl rfl (sub_cons 2 rfl rfl (sub_cons 3 rfl rfl (sub_cons 9 rfl (eq_int (by simp only [agN]; rw [hga, hgb, if_neg (by rw [agB_no2 hB]; decide)]; simp)) (sub_cons 10 rfl (eq_int (by simp)) (sub_nil _))))))) (next1 (i + 1) _ ⟨(by first | omega | (simp only; omega)), rfl⟩ (by first | omega | (simp only; omega)))
    · skip
      refine run_plain (id := 7) (ops := F46.o7) [(0, true), (1, true), (2, true), (3, true), (4, true), (5, true), (6, true), (7, true), (8, true)] (by kernel_rfl) (by kernel_rfl) ?_
      refine yS (by kernel_rfl : opAt F46.o7 0 = some (some 39, .move (.tmp 12), none)) rfl rfl (fun w' hS => val_F (val_move rfl) hA) ?_
      refine yS (by kernel_rfl : opAt F46.o7 1 = some (some 40, .move (.tmp 39), none)) rfl rfl (fun w' hS => val_move rfl) ?_
      refine pS (by kernel_rfl : opAt F46.o7 2 = some (some 41, .move (.tmp 14), (some (1, true)))) rfl rfl ?_
      refine yS (by kernel_rfl : opAt F46.o7 3 = some (some 42, .pick (.tmp 40) (.tmp 41) (.const (.bool false)), none)) rfl rfl (fun w' hS => val_pick_f rfl rfl) ?_
      refine yS (by kernel_rfl : opAt F46.o7 4 = some (some 43, .move (.tmp 42), none)) rfl rfl (fun w' hS => val_move rfl) ?_
      refine pS (by kernel_rfl : opAt F46.o7 5 = some (some 44, .move (.tmp 11), (some (4, true)))) rfl rfl ?_
      refine pS (by kernel_rfl : opAt F46.o7 6 = some (some 45, .move (.tmp 13), (some (4, true)))) rfl rfl ?_
      refine pS (by kernel_rfl : opAt F46.o7 7 = some (some 46, .binOp .eql 42 (.tmp 44) (.tmp 45) 42, (some (4, true)))) rfl rfl ?_
      refine yS (by kernel_rfl : opAt F46.o7 8 = some (some 47, .pick (.tmp 43) (.tmp 46) (.const (.bool false)), none)) rfl rfl (fun w' hS => val_pick_f rfl rfl) ?_
      refine Sch.nil ?_
      refine run_cond (x := F46.c24) (y := F46.c25) (o := .tmp 47) (b := false) (by kernel_rfl) rfl (fun h => by cases h) (fun _ => ?_)
      refine run_skip (by kernel_rfl) ?_
      refine run_inBlock ?_
      refine run_plain (id := 4) (ops := F46.o4) [(0, true), (1, true), (2, true)] (by kernel_rfl) (by kernel_rfl) ?_
      refine yS (by kernel_rfl : opAt F46.o4 0 = some (some 19, .move (.tmp 10), none)) rfl rfl (fun w' hS => val_move rfl) ?_
      refine yS (by kernel_rfl : opAt F46.o4 1 = some (some 20, .binOp .add 3 (.tmp 19) (.const (.int .i64 1)) 3, none)) rfl rfl (fun w' hS => val_addi rfl rfl (by omega) (by omega)) ?_
      refine yS (by kernel_rfl : opAt F46.o4 2 = some (some 10, .assign (.tmp 20), none)) rfl rfl (fun w' hS => val_assign rfl) ?_
      refine Sch.nil ?_
      refine kp (sub_cons 0 rfl rfl (sub_cons 1 rfl rfl (sub_cons 2 rfl rfl (sub_cons 3 rfl rfl (sub_cons 9 rfl (eq_int (by simp only [agN]; rw [hga, hgb, if_neg (by rw [agB_no1 hA]; decide)]; simp)) (sub_cons 10 rfl (eq_int (by simp)) (sub_nil _))))))) (next1 (i + 1) _ ⟨(by first | omega | (simp only; omega)), rfl⟩ (by first | omega | (simp only; omega)))
  · skip
    obtain rfl : i = a.length := by omega
    refine run_exit (id := 0) (by kernel_rfl) rfl ?_
    refine run_seq (x := F46.c28) (y := F46.c29) (by kernel_rfl) ?_
    refine run_plain (id := 9) (ops := F46.o9) [(0, true), (1, true)] (by kernel_rfl) (by kernel_rfl) ?_
    refine yS (by kernel_rfl : opAt F46.o9 0 = some (some 52, .move (.tmp 9), none)) rfl rfl (fun w' hS => val_move rfl) ?_
    refine yS (by kernel_rfl : opAt F46.o9 1 = some (some 8, .assign (.tmp 52), none)) rfl rfl (fun w' hS => val_assign rfl) ?_
    refine Sch.nil ?_
    refine run_ret1 (by kernel_rfl) Try.func46 Try.results46 rfl ?_
    exact ⟨rfl, rfl⟩
end Go.Proofs.Ytejbklahkkjmhaa
