/- Steps through functions of the program. -/
import Derived.Test.YtfmdkdfhnkennaaKCG
set_option linter.unusedVariables false
set_option linter.unusedSimpArgs false
set_option maxRecDepth 100000
set_option maxHeartbeats 400000
namespace Go.Proofs.Ytfmdkdfhnkennaa
open Go.K Go.K.Rep

namespace F40
noncomputable def c0 : Code := bodyOf Try.f40
noncomputable def c1 : Code := cl c0
noncomputable def o0 : Array Oper := rops c1
noncomputable def c2 : Code := cr c0
noncomputable def c3 : Code := cl c2
noncomputable def c4 : Code := cl c3
noncomputable def o1 : Array Oper := rops c4
noncomputable def c5 : Code := cr c3
noncomputable def c6 : Code := cl c5
noncomputable def c7 : Code := cl c6
noncomputable def c8 : Code := cl c7
noncomputable def c9 : Code := cl c8
noncomputable def o2 : Array Oper := rops c9
noncomputable def c10 : Code := cr c8
noncomputable def c11 : Code := cl c10
noncomputable def c12 : Code := cr c10
noncomputable def c13 : Code := cr c7
noncomputable def c14 : Code := cl c13
noncomputable def c15 : Code := cl c14
noncomputable def c16 : Code := cl c15
noncomputable def o4 : Array Oper := rops c16
noncomputable def c17 : Code := cr c15
noncomputable def c18 : Code := cl c17
noncomputable def c19 : Code := cl c18
noncomputable def o5 : Array Oper := rops c19
noncomputable def c20 : Code := cr c18
noncomputable def c21 : Code := cr c17
noncomputable def c22 : Code := cr c13
noncomputable def o3 : Array Oper := rops c22
noncomputable def c23 : Code := cr c2
noncomputable def c24 : Code := cl c23
noncomputable def o6 : Array Oper := rops c24
noncomputable def c25 : Code := cr c23
end F40
theorem refIndex_ok {w₀ : World} {C : Nat → Nat} {l : List Couple} {c : Couple} {vl : Value} (hF : Lim w₀ C) (hl : RV w₀ (Mc C) l vl) : Calls Try.prog 40 #[vl, .agg #[.int .i64 c.a, .int .i64 c.b]] w₀ (Ret fun v w' => v = .int .i64 (idxOf (fun x => decide (c = x)) l) ∧ Stp [] w₀ C w' C) := by
  have hF0 := hF
  have hT := Stp.refl [2, 3, 4, 5, 6, 7, 8, 9] w₀ (col1 C)
  replace hF := hF.col1
  replace hl : RV w₀ (Mc (col1 C)) l vl := by rw [Mc_col1]; exact hl
  refine calls_start (c := F40.c0) (N := 19) [vl, .agg #[.int .i64 c.a, .int .i64 c.b]] Try.func40 (by kernel_rfl) (by kernel_rfl) (by kernel_rfl) ?_
  show Run _ _ _ _ [(0, vl), (1, .agg #[.int .i64 c.a, .int .i64 c.b])] _ _
  refine run_seq (x := F40.c1) (y := F40.c2) (by kernel_rfl) ?_
  refine run_plain (id := 0) (ops := F40.o0) [(0, false), (1, true)] (by kernel_rfl) (by kernel_rfl) ?_
  refine aS (by kernel_rfl : opAt F40.o0 0 = some (some 3, .box 25 (.tmp 1), none)) rfl rfl (a_box (cs := encR c) hF 3 rfl rfl) ?_
  rintro _ w1 ⟨Cw1, bw1, rfl, hs, hx, hF⟩
  refine ⟨trivial, ?_⟩
  replace hT := hT.trans hs (by simp)
  replace hl := hl.st hs (by first | decide | (simp <;> omega))
  refine yS (by kernel_rfl : opAt F40.o0 1 = some (some 4, .assign (.const (.int .i64 0)), none)) rfl rfl (fun w' hS => val_assign rfl) ?_
  refine Sch.nil ?_
  refine run_seq (x := F40.c3) (y := F40.c23) (by kernel_rfl) ?_
  refine run_seq (x := F40.c4) (y := F40.c5) (by kernel_rfl) ?_
  refine run_plain (id := 1) (ops := F40.o1) [(0, true)] (by kernel_rfl) (by kernel_rfl) ?_
  refine yS (by kernel_rfl : opAt F40.o1 0 = some (some 5, .assign (.const (.int .i64 0)), none)) rfl rfl (fun w' hS => val_assign rfl) ?_
  refine Sch.nil ?_
  refine run_block (x := F40.c6) (id := 0) (by kernel_rfl) ?_
  
  refine run_loop (ι := Nat × (Nat → Nat)) (I := fun x w => x.1 ≤ l.length ∧ (∀ i, i < x.1 → ∀ (hi : i < l.length), (fun x => decide (c = x)) l[i] = false) ∧ Lim w x.2 ∧ Stp [2, 3, 4, 5, 6, 7, 8, 9] w₀ (col1 C) w x.2 ∧ RV w (Mc x.2) l vl ∧ OwnB w x.2 3 bw1 (.cells (encR c).toArray 25)) (e := fun x => [(0, vl), (3, .pointer (some ⟨bw1, 0, none⟩)), (4, .int .i64 0), (5, .int .i64 x.1)]) (m := fun x => l.length - x.1) (x₀ := (0, Cw1)) (body := F40.c7) (by kernel_rfl) (sub_cons 0 rfl rfl (sub_cons 3 rfl rfl (sub_cons 4 rfl rfl (sub_cons 5 rfl rfl (sub_nil _))))) ?_ ?_
  · exact ⟨Nat.zero_le _, fun i hi => by simp at hi, hF, hT, hl, hx⟩
  intro ⟨k, C1⟩ w2 hI next
  obtain ⟨hk, h0, hF, hT, hl, hx⟩ := hI
  try simp only at hk h0 hF hT hl hx
  have next1 := next
  clear next
  show Run _ _ _ _ [(0, vl), (3, .pointer (some ⟨bw1, 0, none⟩)), (4, .int .i64 0), (5, .int .i64 k)] _ _
  have hle := hl.le
  refine run_seq (x := F40.c8) (y := F40.c13) (by kernel_rfl) ?_
  refine run_seq (x := F40.c9) (y := F40.c10) (by kernel_rfl) ?_
  refine run_plain (id := 2) (ops := F40.o2) [(0, true), (1, true), (2, true), (3, true)] (by kernel_rfl) (by kernel_rfl) ?_
  refine yS (by kernel_rfl : opAt F40.o2 0 = some (some 6, .move (.tmp 5), none)) rfl rfl (fun w' hS => val_move rfl) ?_
  refine yS (by kernel_rfl : opAt F40.o2 1 = some (some 7, .move (.tmp 0), none)) rfl rfl (fun w' hS => val_move rfl) ?_
  refine yS (by kernel_rfl : opAt F40.o2 2 = some (some 8, .call { callee := .builtin .len, args := #[(.tmp 7)], argTypes := #[38] }, none)) rfl rfl (fun w' hS => hl.lenV rfl Try.underlying38 w' ) ?_
  refine yS (by kernel_rfl : opAt F40.o2 3 = some (some 9, .binOp .lss 3 (.tmp 6) (.tmp 8) 3, none)) rfl rfl (fun w' hS => val_lss rfl rfl) ?_
  refine Sch.nil ?_
  refine run_if (x := F40.c11) (y := F40.c12) (o := .tmp 9) (by kernel_rfl) rfl (fun h9 => ?_) (fun h9 => ?_)
  · skip
    have hkl : k < l.length := by omega
    refine run_skip (by kernel_rfl) ?_
    refine run_seq (x := F40.c14) (y := F40.c22) (by kernel_rfl) ?_
    refine run_block (x := F40.c15) (id := 1) (by kernel_rfl) ?_
    refine run_seq (x := F40.c16) (y := F40.c17) (by kernel_rfl) ?_
    refine run_draw (id := 4) (ops := F40.o4) [] (C1) [(0, true), (1, true), (2, true), (3, true), (4, true), (5, true)] Try_mixed (by kernel_rfl) (by kernel_rfl) (by kernel_rfl) ?_
    intro w3 hs
    replace hF := hF.st hs
    replace hT := hT.trans hs (by simp)
    replace hl := hl.st hs (by first | decide | (simp <;> omega))
    replace hx := hx.st hs (by first | decide | (simp <;> omega))
    refine yS (by kernel_rfl : opAt F40.o4 0 = some (some 12, .move (.tmp 0), none)) rfl rfl (fun w' hS => val_move rfl) ?_
    refine yS (by kernel_rfl : opAt F40.o4 1 = some (some 13, .move (.tmp 5), none)) rfl rfl (fun w' hS => val_move rfl) ?_
    refine iS (e := 25) (by kernel_rfl : opAt F40.o4 2 = some (some 14, .indexAddr 38 (.tmp 12) (.tmp 13), none)) rfl rfl hl rfl (by kernel_rfl) rfl (by omega) (by omega) ?_
    intro b14 o14 h14
    try simp only [Int.toNat_natCast] at h14
    refine lSA (by kernel_rfl : opAt F40.o4 3 = some (some 15, .load 25 (.tmp 14), none)) rfl rfl (fun w' hS => h14.stay hS (by decide)) h14 (by kernel_rfl) (by kernel_rfl) rfl rfl ?_
    intro v15 g15
    obtain rfl := rv_couple.1 g15
    refine yS (by kernel_rfl : opAt F40.o4 4 = some (some 16, .load 25 (.tmp 3), none)) rfl rfl (fun w' hS => val_loadOwnAgg (n := 2) (vs := encR c) (hx.stay hS (by decide)) (by kernel_rfl) (by kernel_rfl) rfl rfl rfl) ?_
    refine yS (by kernel_rfl : opAt F40.o4 5 = some (some 17, .binOp .eql 25 (.tmp 15) (.tmp 16) 25, none)) rfl rfl (fun w' hS => val_eqC (a := l[k]) (b := c) Try.underlying25 (by decide) (by decide) (by kernel_rfl) Try.underlying3 rfl rfl) ?_
    refine Sch.nil ?_
    refine run_if (x := F40.c18) (y := F40.c21) (o := .tmp 17) (by kernel_rfl) rfl (fun h17 => ?_) (fun h17 => ?_)
    · skip
      refine run_seq (x := F40.c19) (y := F40.c20) (by kernel_rfl) ?_
      refine run_plain (id := 5) (ops := F40.o5) [(0, true), (1, true)] (by kernel_rfl) (by kernel_rfl) ?_
      refine yS (by kernel_rfl : opAt F40.o5 0 = some (some 18, .move (.tmp 5), none)) rfl rfl (fun w' hS => val_move rfl) ?_
      refine yS (by kernel_rfl : opAt F40.o5 1 = some (some 4, .assign (.tmp 18), none)) rfl rfl (fun w' hS => val_assign rfl) ?_
      refine Sch.nil ?_
      refine run_ret1 (by kernel_rfl) Try.func40 Try.results40 rfl ?_
      exact ⟨by rw [idxOf_at hkl (fun i hi => h0 i hi (by omega)) (decide_eq_true h17.symm)], hT.out1 (by decide)⟩
    · skip
      refine run_skip (by kernel_rfl) ?_
      refine run_inBlock ?_
      refine run_plain (id := 3) (ops := F40.o3) [(0, true), (1, true), (2, true)] (by kernel_rfl) (by kernel_rfl) ?_
      refine yS (by kernel_rfl : opAt F40.o3 0 = some (some 10, .move (.tmp 5), none)) rfl rfl (fun w' hS => val_move rfl) ?_
      refine yS (by kernel_rfl : opAt F40.o3 1 = some (some 11, .binOp .add 3 (.tmp 10) (.const (.int .i64 1)) 3, none)) rfl rfl (fun w' hS => val_addi rfl rfl (by omega) (by omega)) ?_
      refine yS (by kernel_rfl : opAt F40.o3 2 = some (some 5, .assign (.tmp 11), none)) rfl rfl (fun w' hS => val_assign rfl) ?_
      refine Sch.nil ?_
      refine kp (sub_cons 0 rfl rfl (sub_cons 3 rfl rfl (sub_cons 4 rfl rfl (sub_cons 5 rfl (eq_int (by simp)) (sub_nil _))))) (next1 (k + 1, C1) _ ⟨(by first | omega | (simp only; omega)), (fun i hi hl => by
          simp only at hi
          by_cases e : i = k
          · subst e; exact decide_eq_false (fun e => h17 e.symm)
          · exact h0 i (by omega) hl), hF, hT, hl, hx⟩ (by first | omega | (simp only; omega)))
  · skip
    have hkl : k = l.length := by omega
    refine run_exit (id := 0) (by kernel_rfl) rfl ?_
    refine run_seq (x := F40.c24) (y := F40.c25) (by kernel_rfl) ?_
    refine run_plain (id := 6) (ops := F40.o6) [(0, true)] (by kernel_rfl) (by kernel_rfl) ?_
    refine yS (by kernel_rfl : opAt F40.o6 0 = some (some 4, .assign (.const (.int .i64 (-1))), none)) rfl rfl (fun w' hS => val_assign rfl) ?_
    refine Sch.nil ?_
    refine run_ret1 (by kernel_rfl) Try.func40 Try.results40 rfl ?_
    exact ⟨by rw [idxOf_none (fun i hi => h0 i (by omega) hi)], hT.out1 (by decide)⟩
namespace F23
noncomputable def c0 : Code := bodyOf Try.f23
noncomputable def c1 : Code := cl c0
noncomputable def o0 : Array Oper := rops c1
noncomputable def c2 : Code := cr c0
noncomputable def c3 : Code := cl c2
noncomputable def c4 : Code := cl c3
noncomputable def o1 : Array Oper := rops c4
noncomputable def c5 : Code := cr c3
noncomputable def c6 : Code := cl c5
noncomputable def c7 : Code := cl c6
noncomputable def c8 : Code := cl c7
noncomputable def c9 : Code := cl c8
noncomputable def o2 : Array Oper := rops c9
noncomputable def c10 : Code := cr c8
noncomputable def c11 : Code := cl c10
noncomputable def c12 : Code := cr c10
noncomputable def c13 : Code := cr c7
noncomputable def c14 : Code := cl c13
noncomputable def c15 : Code := cl c14
noncomputable def c16 : Code := cl c15
noncomputable def o4 : Array Oper := rops c16
noncomputable def c17 : Code := cr c15
noncomputable def c18 : Code := cl c17
noncomputable def c19 : Code := cl c18
noncomputable def o5 : Array Oper := rops c19
noncomputable def c20 : Code := cr c18
noncomputable def c21 : Code := cr c17
noncomputable def c22 : Code := cr c13
noncomputable def o3 : Array Oper := rops c22
noncomputable def c23 : Code := cr c2
noncomputable def c24 : Code := cl c23
noncomputable def o6 : Array Oper := rops c24
noncomputable def c25 : Code := cr c23
end F23
theorem refFind_ok {w₀ : World} {C : Nat → Nat} {l : List (List Couple)} {c : Couple} {vl : Value} (hF : Lim w₀ C) (hl : RV w₀ (Mc C) l vl) : Calls Try.prog 23 #[vl, .agg #[.int .i64 c.a, .int .i64 c.b]] w₀ (Ret fun v w' => v = .int .i64 (findS l c) ∧ Stp [] w₀ C w' C) := by
  have hF0 := hF
  have hT := Stp.refl [2, 3, 4, 5, 6, 7, 8, 9] w₀ (col1 C)
  replace hF := hF.col1
  replace hl : RV w₀ (Mc (col1 C)) l vl := by rw [Mc_col1]; exact hl
  refine calls_start (c := F23.c0) (N := 20) [vl, .agg #[.int .i64 c.a, .int .i64 c.b]] Try.func23 (by kernel_rfl) (by kernel_rfl) (by kernel_rfl) ?_
  show Run _ _ _ _ [(0, vl), (1, .agg #[.int .i64 c.a, .int .i64 c.b])] _ _
  refine run_seq (x := F23.c1) (y := F23.c2) (by kernel_rfl) ?_
  refine run_plain (id := 0) (ops := F23.o0) [(0, false), (1, true)] (by kernel_rfl) (by kernel_rfl) ?_
  refine aS (by kernel_rfl : opAt F23.o0 0 = some (some 3, .box 25 (.tmp 1), none)) rfl rfl (a_box (cs := encR c) hF 3 rfl rfl) ?_
  rintro _ w1 ⟨Cw1, bw1, rfl, hs, hx, hF⟩
  refine ⟨trivial, ?_⟩
  replace hT := hT.trans hs (by simp)
  replace hl := hl.st hs (by first | decide | (simp <;> omega))
  refine yS (by kernel_rfl : opAt F23.o0 1 = some (some 4, .assign (.const (.int .i64 0)), none)) rfl rfl (fun w' hS => val_assign rfl) ?_
  refine Sch.nil ?_
  refine run_seq (x := F23.c3) (y := F23.c23) (by kernel_rfl) ?_
  refine run_seq (x := F23.c4) (y := F23.c5) (by kernel_rfl) ?_
  refine run_plain (id := 1) (ops := F23.o1) [(0, true)] (by kernel_rfl) (by kernel_rfl) ?_
  refine yS (by kernel_rfl : opAt F23.o1 0 = some (some 5, .assign (.const (.int .i64 0)), none)) rfl rfl (fun w' hS => val_assign rfl) ?_
  refine Sch.nil ?_
  refine run_block (x := F23.c6) (id := 0) (by kernel_rfl) ?_
  
  refine run_loop (ι := Nat × (Nat → Nat)) (I := fun x w => x.1 ≤ l.length ∧ (∀ i, i < x.1 → ∀ (hi : i < l.length), (fun p => p.any fun x => decide (c = x)) l[i] = false) ∧ Lim w x.2 ∧ Stp [2, 3, 4, 5, 6, 7, 8, 9] w₀ (col1 C) w x.2 ∧ RV w (Mc x.2) l vl ∧ OwnB w x.2 3 bw1 (.cells (encR c).toArray 25)) (e := fun x => [(0, vl), (3, .pointer (some ⟨bw1, 0, none⟩)), (4, .int .i64 0), (5, .int .i64 x.1)]) (m := fun x => l.length - x.1) (x₀ := (0, Cw1)) (body := F23.c7) (by kernel_rfl) (sub_cons 0 rfl rfl (sub_cons 3 rfl rfl (sub_cons 4 rfl rfl (sub_cons 5 rfl rfl (sub_nil _))))) ?_ ?_
  · exact ⟨Nat.zero_le _, fun i hi => by simp at hi, hF, hT, hl, hx⟩
  intro ⟨k, C1⟩ w2 hI next
  obtain ⟨hk, h0, hF, hT, hl, hx⟩ := hI
  try simp only at hk h0 hF hT hl hx
  have next1 := next
  clear next
  show Run _ _ _ _ [(0, vl), (3, .pointer (some ⟨bw1, 0, none⟩)), (4, .int .i64 0), (5, .int .i64 k)] _ _
  have hle := hl.le
  refine run_seq (x := F23.c8) (y := F23.c13) (by kernel_rfl) ?_
  refine run_seq (x := F23.c9) (y := F23.c10) (by kernel_rfl) ?_
  refine run_plain (id := 2) (ops := F23.o2) [(0, true), (1, true), (2, true), (3, true)] (by kernel_rfl) (by kernel_rfl) ?_
  refine yS (by kernel_rfl : opAt F23.o2 0 = some (some 6, .move (.tmp 5), none)) rfl rfl (fun w' hS => val_move rfl) ?_
  refine yS (by kernel_rfl : opAt F23.o2 1 = some (some 7, .move (.tmp 0), none)) rfl rfl (fun w' hS => val_move rfl) ?_
  refine yS (by kernel_rfl : opAt F23.o2 2 = some (some 8, .call { callee := .builtin .len, args := #[(.tmp 7)], argTypes := #[26] }, none)) rfl rfl (fun w' hS => hl.lenV rfl Try.underlying26 w' ) ?_
  refine yS (by kernel_rfl : opAt F23.o2 3 = some (some 9, .binOp .lss 3 (.tmp 6) (.tmp 8) 3, none)) rfl rfl (fun w' hS => val_lss rfl rfl) ?_
  refine Sch.nil ?_
  refine run_if (x := F23.c11) (y := F23.c12) (o := .tmp 9) (by kernel_rfl) rfl (fun h9 => ?_) (fun h9 => ?_)
  · skip
    have hkl : k < l.length := by omega
    refine run_skip (by kernel_rfl) ?_
    refine run_seq (x := F23.c14) (y := F23.c22) (by kernel_rfl) ?_
    refine run_block (x := F23.c15) (id := 1) (by kernel_rfl) ?_
    refine run_seq (x := F23.c16) (y := F23.c17) (by kernel_rfl) ?_
    refine run_draw (id := 4) (ops := F23.o4) [] (C1) [(0, true), (1, true), (2, true), (3, true), (4, true), (5, false), (6, true)] Try_mixed (by kernel_rfl) (by kernel_rfl) (by kernel_rfl) ?_
    intro w3 hs
    replace hF := hF.st hs
    replace hT := hT.trans hs (by simp)
    replace hl := hl.st hs (by first | decide | (simp <;> omega))
    replace hx := hx.st hs (by first | decide | (simp <;> omega))
    have hR := Stp.refl [] w3 (C1)
    refine yS (by kernel_rfl : opAt F23.o4 0 = some (some 12, .move (.tmp 0), none)) rfl rfl (fun w' hS => val_move rfl) ?_
    refine yS (by kernel_rfl : opAt F23.o4 1 = some (some 13, .move (.tmp 5), none)) rfl rfl (fun w' hS => val_move rfl) ?_
    refine iS (e := 38) (by kernel_rfl : opAt F23.o4 2 = some (some 14, .indexAddr 26 (.tmp 12) (.tmp 13), none)) rfl rfl hl rfl (by kernel_rfl) rfl (by omega) (by omega) ?_
    intro b14 o14 h14
    try simp only [Int.toNat_natCast] at h14
    refine lS (by kernel_rfl : opAt F23.o4 3 = some (some 15, .load 38 (.tmp 14), none)) rfl rfl (fun w' hS => h14.stay hS (by decide)) h14 (by kernel_rfl) rfl rfl ?_
    intro v15 g15
    refine yS (by kernel_rfl : opAt F23.o4 4 = some (some 16, .load 25 (.tmp 3), none)) rfl rfl (fun w' hS => val_loadOwnAgg (n := 2) (vs := encR c) (hx.stay hS (by decide)) (by kernel_rfl) (by kernel_rfl) rfl rfl rfl) ?_
    refine cS (by kernel_rfl : opAt F23.o4 5 = some (some 17, .call { callee := .value (.func 40), args := #[(.tmp 15), (.tmp 16)], argTypes := #[38, 25] }, none)) rfl rfl (ent Try.call40 rfl) (refIndex_ok (c := c) hF g15) ?_
    rintro vw4 w4 ⟨rfl, hs⟩
    refine ⟨(hR.trans hs (by simp)).ext, ?_⟩
    replace hF := hF.st hs
    replace hT := hT.trans hs (by simp)
    replace hl := hl.st hs (by first | decide | (simp <;> omega))
    replace hx := hx.st hs (by first | decide | (simp <;> omega))
    replace hR := hR.trans hs (by simp)
    replace h14 := h14.st hs (by first | decide | (simp <;> omega))
    replace g15 := g15.st hs (by first | decide | (simp <;> omega))
    refine yS (by kernel_rfl : opAt F23.o4 6 = some (some 18, .binOp .geq 3 (.tmp 17) (.const (.int .i64 0)) 3, none)) rfl rfl (fun w' hS => val_geq rfl rfl) ?_
    refine Sch.nil ?_
    refine run_if (x := F23.c18) (y := F23.c21) (o := .tmp 18) (by kernel_rfl) rfl (fun h18 => ?_) (fun h18 => ?_)
    · skip
      refine run_seq (x := F23.c19) (y := F23.c20) (by kernel_rfl) ?_
      refine run_plain (id := 5) (ops := F23.o5) [(0, true), (1, true)] (by kernel_rfl) (by kernel_rfl) ?_
      refine yS (by kernel_rfl : opAt F23.o5 0 = some (some 19, .move (.tmp 5), none)) rfl rfl (fun w' hS => val_move rfl) ?_
      refine yS (by kernel_rfl : opAt F23.o5 1 = some (some 4, .assign (.tmp 19), none)) rfl rfl (fun w' hS => val_assign rfl) ?_
      refine Sch.nil ?_
      refine run_ret1 (by kernel_rfl) Try.func23 Try.results23 rfl ?_
      exact ⟨by unfold findS; rw [idxOf_at hkl (fun i hi => h0 i hi (by omega)) (by show (List.any _ _) = true; rw [← idxOf_ge]; exact decide_eq_true h18)], hT.out1 (by decide)⟩
    · skip
      refine run_skip (by kernel_rfl) ?_
      refine run_inBlock ?_
      refine run_plain (id := 3) (ops := F23.o3) [(0, true), (1, true), (2, true)] (by kernel_rfl) (by kernel_rfl) ?_
      refine yS (by kernel_rfl : opAt F23.o3 0 = some (some 10, .move (.tmp 5), none)) rfl rfl (fun w' hS => val_move rfl) ?_
      refine yS (by kernel_rfl : opAt F23.o3 1 = some (some 11, .binOp .add 3 (.tmp 10) (.const (.int .i64 1)) 3, none)) rfl rfl (fun w' hS => val_addi rfl rfl (by omega) (by omega)) ?_
      refine yS (by kernel_rfl : opAt F23.o3 2 = some (some 5, .assign (.tmp 11), none)) rfl rfl (fun w' hS => val_assign rfl) ?_
      refine Sch.nil ?_
      refine kp (sub_cons 0 rfl rfl (sub_cons 3 rfl rfl (sub_cons 4 rfl rfl (sub_cons 5 rfl (eq_int (by simp)) (sub_nil _))))) (next1 (k + 1, C1) _ ⟨(by first | omega | (simp only; omega)), (fun i hi hl => by
          simp only at hi
          by_cases e : i = k
          · subst e; show (List.any _ _) = false; rw [← idxOf_ge]; exact decide_eq_false h18
          · exact h0 i (by omega) hl), hF, hT, hl, hx⟩ (by first | omega | (simp only; omega)))
  · skip
    have hkl : k = l.length := by omega
    refine run_exit (id := 0) (by kernel_rfl) rfl ?_
    refine run_seq (x := F23.c24) (y := F23.c25) (by kernel_rfl) ?_
    refine run_plain (id := 6) (ops := F23.o6) [(0, true)] (by kernel_rfl) (by kernel_rfl) ?_
    refine yS (by kernel_rfl : opAt F23.o6 0 = some (some 4, .assign (.const (.int .i64 (-1))), none)) rfl rfl (fun w' hS => val_assign rfl) ?_
    refine Sch.nil ?_
    refine run_ret1 (by kernel_rfl) Try.func23 Try.results23 rfl ?_
    exact ⟨by unfold findS; rw [idxOf_none (fun i hi => h0 i (by omega) hi)], hT.out1 (by decide)⟩
end Go.Proofs.Ytfmdkdfhnkennaa

