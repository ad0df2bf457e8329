/- Steps through functions of the program. -/
import Derived.Test.YthdkcbakiiokiaaJG5
set_option linter.unusedVariables false
set_option linter.unusedSimpArgs false
set_option maxRecDepth 100000
set_option maxHeartbeats 4000000
namespace Go.Proofs.Ythdkcbakiiokiaa
open Go.K Go.K.Rep

namespace F4
noncomputable def c0 : Code := bodyOf Try.f4
noncomputable def c1 : Code := cl c0
noncomputable def o0 : Array Oper := rops c1
noncomputable def c2 : Code := cr c0
noncomputable def c3 : Code := cl c2
noncomputable def c4 : Code := cl c3
noncomputable def o1 : Array Oper := rops c4
noncomputable def c5 : Code := cr c3
noncomputable def c6 : Code := cl c5
noncomputable def c7 : Code := cl c6
noncomputable def o2 : Array Oper := rops c7
noncomputable def c8 : Code := cr c6
noncomputable def c9 : Code := cr c5
noncomputable def c10 : Code := cr c2
noncomputable def c11 : Code := cl c10
noncomputable def o3 : Array Oper := rops c11
noncomputable def c12 : Code := cr c10
noncomputable def c13 : Code := cl c12
noncomputable def o4 : Array Oper := rops c13
noncomputable def c14 : Code := cr c12
noncomputable def c15 : Code := cl c14
noncomputable def o5 : Array Oper := rops c15
noncomputable def c16 : Code := cr c14
noncomputable def c17 : Code := cl c16
noncomputable def o6 : Array Oper := rops c17
noncomputable def c18 : Code := cr c16
noncomputable def c19 : Code := cl c18
noncomputable def o7 : Array Oper := rops c19
noncomputable def c20 : Code := cr c18
end F4
/-- The statement's function answers true. -/
theorem gramTokens_ok {w₀ : World} {C : Nat → Nat} {l : List Int} {vl : Value} (hF : Lim w₀ C) (hl : RV w₀ (Mc C) l vl) : Calls Try.prog 4 #[vl] w₀ (Ret fun v w' => v = .bool true ∧ Stp [] w₀ C w' C) := by
  have hF0 := hF
  have hT := Stp.refl [2, 3, 4, 5, 6, 7, 8, 9] w₀ (col1 C)
  replace hF := hF.col1
  replace hl : RV w₀ (Mc (col1 C)) l vl := by rw [Mc_col1]; exact hl
  refine calls_start (c := F4.c0) (N := 58) [vl] Try.func4 (by kernel_rfl) (by kernel_rfl) (by kernel_rfl) ?_
  show Run _ _ _ _ [(0, vl)] _ _
  refine run_seq (x := F4.c1) (y := F4.c2) (by kernel_rfl) ?_
  refine run_plain (id := 0) (ops := F4.o0) [(0, true)] (by kernel_rfl) (by kernel_rfl) ?_
  refine yS (by kernel_rfl : opAt F4.o0 0 = some (some 2, .assign (.const (.bool false)), none)) rfl rfl (fun w' hS => val_assign rfl) ?_
  refine Sch.nil ?_
  refine run_seq (x := F4.c3) (y := F4.c10) (by kernel_rfl) ?_
  refine run_seq (x := F4.c4) (y := F4.c5) (by kernel_rfl) ?_
  refine run_plain (id := 1) (ops := F4.o1) [(0, false), (1, true), (2, true), (3, true), (4, false), (5, true), (6, true)] (by kernel_rfl) (by kernel_rfl) ?_
  refine cS (by kernel_rfl : opAt F4.o1 0 = some (some 8, .call { callee := .value (.func 8), args := #[], argTypes := #[] }, none)) rfl rfl (ent Try.call8 rfl) (awake_ok hF) ?_
  rintro vw1 w1 ⟨rfl, hs⟩
  refine ⟨trivial, ?_⟩
  replace hF := hF.st hs
  replace hT := hT.trans hs (by simp)
  replace hl := hl.st hs (by first | decide | (simp <;> omega))
  refine yS (by kernel_rfl : opAt F4.o1 1 = some (some 9, .unOp .not 4 (.tmp 8), none)) rfl rfl (fun w' hS => val_not rfl) ?_
  refine yS (by kernel_rfl : opAt F4.o1 2 = some (some 10, .move (.tmp 9), none)) rfl rfl (fun w' hS => val_move rfl) ?_
  refine yS (by kernel_rfl : opAt F4.o1 3 = some (some 11, .move (.tmp 0), (some (2, false)))) rfl rfl (fun w' hS => val_move rfl) ?_
  refine cS (by kernel_rfl : opAt F4.o1 4 = some (some 12, .call { callee := .value (.func 9), args := #[(.tmp 11)], argTypes := #[22] }, (some (2, false)))) rfl rfl (ent Try.call9 rfl) (few_any hl) ?_
  rintro vw2 w2 ⟨rfl, rfl⟩
  refine ⟨trivial, ?_⟩
  refine yS (by kernel_rfl : opAt F4.o1 5 = some (some 13, .unOp .not 4 (.tmp 12), (some (2, false)))) rfl rfl (fun w' hS => val_notd rfl) ?_
  refine yS (by kernel_rfl : opAt F4.o1 6 = some (some 14, .pick (.tmp 10) (.const (.bool true)) (.tmp 13), none)) rfl rfl (fun w' hS => val_pick_f rfl rfl) ?_
  refine Sch.nil ?_
  refine run_if (x := F4.c6) (y := F4.c9) (o := .tmp 14) (by kernel_rfl) rfl (fun h14 => ?_) (fun h14 => ?_)
  · skip
    refine run_seq (x := F4.c7) (y := F4.c8) (by kernel_rfl) ?_
    refine run_plain (id := 2) (ops := F4.o2) [(0, false), (1, true)] (by kernel_rfl) (by kernel_rfl) ?_
    refine cS (by kernel_rfl : opAt F4.o2 0 = some (some 15, .call { callee := .value (.func 8), args := #[], argTypes := #[] }, none)) rfl rfl (ent Try.call8 rfl) (awake_ok hF) ?_
    rintro vw3 w3 ⟨rfl, hs⟩
    refine ⟨trivial, ?_⟩
    replace hF := hF.st hs
    replace hT := hT.trans hs (by simp)
    replace hl := hl.st hs (by first | decide | (simp <;> omega))
    refine yS (by kernel_rfl : opAt F4.o2 1 = some (some 2, .assign (.tmp 15), none)) rfl rfl (fun w' hS => val_assign rfl) ?_
    refine Sch.nil ?_
    refine run_ret1 (by kernel_rfl) Try.func4 Try.results4 rfl ?_
    exact ⟨rfl, hT.out1 (by decide)⟩
  · skip
    refine run_skip (by kernel_rfl) ?_
    refine run_seq (x := F4.c11) (y := F4.c12) (by kernel_rfl) ?_
    refine run_plain (id := 3) (ops := F4.o3) [(0, true), (1, false), (2, true)] (by kernel_rfl) (by kernel_rfl) ?_
    refine yS (by kernel_rfl : opAt F4.o3 0 = some (some 16, .move (.tmp 0), none)) rfl rfl (fun w' hS => val_move rfl) ?_
    refine cS (by kernel_rfl : opAt F4.o3 1 = some (some 17, .call { callee := .value (.func 11), args := #[(.tmp 16)], argTypes := #[22] }, none)) rfl rfl (ent Try.call11 rfl) (new_any hF hl) ?_
    rintro vw4 w4 ⟨Cd, bd, rfl, hs, hF, hd⟩
    refine ⟨trivial, ?_⟩
    replace hT := hT.trans hs (by simp)
    replace hl := hl.st hs (by first | decide | (simp <;> omega))
    refine yS (by kernel_rfl : opAt F4.o3 2 = some (some 3, .assign (.tmp 17), none)) rfl rfl (fun w' hS => val_assign rfl) ?_
    refine Sch.nil ?_
    refine run_seq (x := F4.c13) (y := F4.c14) (by kernel_rfl) ?_
    refine run_plain (id := 4) (ops := F4.o4) [(0, true), (1, false), (2, true), (3, false), (4, true), (5, true)] (by kernel_rfl) (by kernel_rfl) ?_
    refine yS (by kernel_rfl : opAt F4.o4 0 = some (some 18, .move (.tmp 3), none)) rfl rfl (fun w' hS => val_move rfl) ?_
    refine cS (by kernel_rfl : opAt F4.o4 1 = some (some 19, .call { callee := .value (.func 19), args := #[(.tmp 18)], argTypes := #[27] }, none)) rfl rfl (ent Try.call19 rfl) (token_ok hF (by decide) hd) ?_
    rintro vw5 w5 ⟨x, rfl, hxx, hs, hd⟩
    refine ⟨trivial, ?_⟩
    replace hF := hF.st hs
    replace hT := hT.trans hs (by simp)
    replace hl := hl.st hs (by first | decide | (simp <;> omega))
    have h8x := hxx.2.1
    have h1x := hxx.1
    refine yS (by kernel_rfl : opAt F4.o4 2 = some (some 20, .move (.tmp 3), none)) rfl rfl (fun w' hS => val_move rfl) ?_
    refine cS (by kernel_rfl : opAt F4.o4 3 = some (some 21, .call { callee := .value (.func 19), args := #[(.tmp 20)], argTypes := #[27] }, none)) rfl rfl (ent Try.call19 rfl) (token_ok hF (by decide) hd) ?_
    rintro vw6 w6 ⟨y, rfl, hxy, hs, hd⟩
    refine ⟨trivial, ?_⟩
    replace hF := hF.st hs
    replace hT := hT.trans hs (by simp)
    replace hl := hl.st hs (by first | decide | (simp <;> omega))
    have h8y := hxy.2.1
    have h1y := hxy.1
    refine yS (by kernel_rfl : opAt F4.o4 4 = some (some 4, .assign (.tmp 19), none)) rfl rfl (fun w' hS => val_assign rfl) ?_
    refine yS (by kernel_rfl : opAt F4.o4 5 = some (some 5, .assign (.tmp 21), none)) rfl rfl (fun w' hS => val_assign rfl) ?_
    refine Sch.nil ?_
    refine run_seq (x := F4.c15) (y := F4.c16) (by kernel_rfl) ?_
    refine run_plain (id := 5) (ops := F4.o5) [(0, true), (1, true), (2, true), (3, true), (4, false), (5, true)] (by kernel_rfl) (by kernel_rfl) ?_
    refine yS (by kernel_rfl : opAt F4.o5 0 = some (some 22, .move (.tmp 4), none)) rfl rfl (fun w' hS => val_move rfl) ?_
    refine yS (by kernel_rfl : opAt F4.o5 1 = some (some 23, .binOp .add 9 (.tmp 22) (.const (.string ⟨#[32]⟩)) 9, none)) rfl rfl (fun w' hS => val_cat rfl rfl (by simp only [List.length_append, List.length_cons, List.length_nil]; omega)) ?_
    refine yS (by kernel_rfl : opAt F4.o5 2 = some (some 24, .move (.tmp 5), none)) rfl rfl (fun w' hS => val_move rfl) ?_
    refine yS (by kernel_rfl : opAt F4.o5 3 = some (some 25, .binOp .add 9 (.tmp 23) (.tmp 24) 9, none)) rfl rfl (fun w' hS => val_cat rfl rfl (by simp only [List.length_append, List.length_cons, List.length_nil]; omega)) ?_
    refine cS (by kernel_rfl : opAt F4.o5 4 = some (some 26, .call { callee := .value (.func 15), args := #[(.tmp 25)], argTypes := #[9] }, none)) rfl rfl (ent Try.call15 rfl) (grams_ok hF (by simp only [List.length_append, List.length_cons, List.length_nil]; omega)) ?_
    rintro vhA w7 ⟨hs, hA⟩
    refine ⟨trivial, ?_⟩
    replace hF := hF.st hs
    replace hT := hT.trans hs (by simp)
    replace hl := hl.st hs (by first | decide | (simp <;> omega))
    replace hd := hd.st hs (by first | decide | (simp <;> omega)) (by first | decide | (simp <;> omega))
    refine yS (by kernel_rfl : opAt F4.o5 5 = some (some 6, .assign (.tmp 26), none)) rfl rfl (fun w' hS => val_assign rfl) ?_
    refine Sch.nil ?_
    refine run_seq (x := F4.c17) (y := F4.c18) (by kernel_rfl) ?_
    refine run_plain (id := 6) (ops := F4.o6) [(0, true), (1, false), (2, false), (3, true), (4, false), (5, false), (6, true)] (by kernel_rfl) (by kernel_rfl) ?_
    refine yS (by kernel_rfl : opAt F4.o6 0 = some (some 27, .move (.tmp 4), none)) rfl rfl (fun w' hS => val_move rfl) ?_
    refine cS (by kernel_rfl : opAt F4.o6 1 = some (some 28, .call { callee := .value (.func 15), args := #[(.tmp 27)], argTypes := #[9] }, none)) rfl rfl (ent Try.call15 rfl) (grams_ok hF (by omega)) ?_
    rintro vhP w8 ⟨hs, hP⟩
    refine ⟨trivial, ?_⟩
    replace hF := hF.st hs
    replace hT := hT.trans hs (by simp)
    replace hl := hl.st hs (by first | decide | (simp <;> omega))
    replace hd := hd.st hs (by first | decide | (simp <;> omega)) (by first | decide | (simp <;> omega))
    replace hA := hA.st hs (by first | decide | (simp <;> omega))
    refine aS (by kernel_rfl : opAt F4.o6 2 = some (some 29, .call { callee := .builtin .append, args := #[(.const (.slice none 0 0)), (.tmp 28)], argTypes := #[23, 23] }, none)) rfl rfl (a_append (e := 9) (bytes := 16) hF (by decide) rfl rfl (by kernel_rfl) (by decide) (OwnL.nil (α := Tx) (j := 4)) hP (by have := grams_len x.l; have := grams_len y.l; simp only [List.length_append, List.length_nil]; omega) (by have := grams_len x.l; have := grams_len y.l; simp only [List.length_append, List.length_nil]; omega)) ?_
    rintro v29 w9 ⟨Cw9, hs, hn, hF⟩
    refine ⟨trivial, ?_⟩
    replace hT := hT.trans hs (by simp)
    replace hl := hl.st hs (by first | decide | (simp <;> omega))
    replace hd := hd.st hs (by first | decide | (simp <;> omega)) (by first | decide | (simp <;> omega))
    replace hA := hA.st hs (by first | decide | (simp <;> omega))
    replace hP := hP.st hs (by first | decide | (simp <;> omega))
    refine yS (by kernel_rfl : opAt F4.o6 3 = some (some 30, .move (.tmp 5), none)) rfl rfl (fun w' hS => val_move rfl) ?_
    refine cS (by kernel_rfl : opAt F4.o6 4 = some (some 31, .call { callee := .value (.func 15), args := #[(.tmp 30)], argTypes := #[9] }, none)) rfl rfl (ent Try.call15 rfl) (grams_ok hF (by omega)) ?_
    rintro vhQ w10 ⟨hs, hQ⟩
    refine ⟨trivial, ?_⟩
    replace hF := hF.st hs
    replace hT := hT.trans hs (by simp)
    replace hl := hl.st hs (by first | decide | (simp <;> omega))
    replace hd := hd.st hs (by first | decide | (simp <;> omega)) (by first | decide | (simp <;> omega))
    replace hA := hA.st hs (by first | decide | (simp <;> omega))
    replace hP := hP.st hs (by first | decide | (simp <;> omega))
    replace hn := hn.st hs (by first | decide | (simp <;> omega)) (by first | decide | (simp <;> omega))
    refine aS (by kernel_rfl : opAt F4.o6 5 = some (some 32, .call { callee := .builtin .append, args := #[(.tmp 29), (.tmp 31)], argTypes := #[23, 23] }, none)) rfl rfl (a_append (e := 9) (bytes := 16) hF (by decide) rfl rfl (by kernel_rfl) (by decide) hn hQ (by have := grams_len x.l; have := grams_len y.l; simp only [List.length_append, List.length_nil]; omega) (by have := grams_len x.l; have := grams_len y.l; simp only [List.length_append, List.length_nil]; omega)) ?_
    rintro v32 w11 ⟨Cw11, hs, hn, hF⟩
    refine ⟨trivial, ?_⟩
    replace hT := hT.trans hs (by simp)
    replace hl := hl.st hs (by first | decide | (simp <;> omega))
    replace hd := hd.st hs (by first | decide | (simp <;> omega)) (by first | decide | (simp <;> omega))
    replace hA := hA.st hs (by first | decide | (simp <;> omega))
    replace hP := hP.st hs (by first | decide | (simp <;> omega))
    replace hQ := hQ.st hs (by first | decide | (simp <;> omega))
    refine yS (by kernel_rfl : opAt F4.o6 6 = some (some 7, .assign (.tmp 32), none)) rfl rfl (fun w' hS => val_assign rfl) ?_
    refine Sch.nil ?_
    replace hF := hF.frz 4
    replace hT := hT.frz (n := 4) (fun b => Nat.lt_of_lt_of_le (col1_lt2 C b) (by decide))
    replace hl := hl.frz 4
    replace hd := hd.frz (n := 4) (by decide)
    replace hA := hA.frz 4
    replace hP := hP.frz 4
    replace hQ := hQ.frz 4
    have hB_ := hn.frz (n := 4) (by decide) (by have := grams_len x.l; have := grams_len y.l; simp only [List.length_append, List.length_nil]; omega)
    clear hn
    have hB := hB_
    clear hB_
    rw [List.nil_append] at hB
    refine run_seq (x := F4.c19) (y := F4.c20) (by kernel_rfl) ?_
    refine run_plain (id := 7) (ops := F4.o7) [(0, true), (1, true), (2, true), (3, true), (4, true), (5, false), (6, false), (7, true), (8, true), (9, true), (10, true), (11, true), (12, true), (13, true), (14, true), (15, true), (16, false), (17, false), (18, true), (19, true), (20, true), (21, true), (22, false), (23, false), (24, true), (25, true)] (by kernel_rfl) (by kernel_rfl) ?_
    refine yS (by kernel_rfl : opAt F4.o7 0 = some (some 33, .move (.tmp 6), none)) rfl rfl (fun w' hS => val_move rfl) ?_
    refine yS (by kernel_rfl : opAt F4.o7 1 = some (some 34, .move (.tmp 5), none)) rfl rfl (fun w' hS => val_move rfl) ?_
    refine yS (by kernel_rfl : opAt F4.o7 2 = some (some 35, .binOp .add 9 (.tmp 34) (.const (.string ⟨#[32]⟩)) 9, none)) rfl rfl (fun w' hS => val_cat rfl rfl (by simp only [List.length_append, List.length_cons, List.length_nil]; omega)) ?_
    refine yS (by kernel_rfl : opAt F4.o7 3 = some (some 36, .move (.tmp 4), none)) rfl rfl (fun w' hS => val_move rfl) ?_
    refine yS (by kernel_rfl : opAt F4.o7 4 = some (some 37, .binOp .add 9 (.tmp 35) (.tmp 36) 9, none)) rfl rfl (fun w' hS => val_cat rfl rfl (by simp only [List.length_append, List.length_cons, List.length_nil]; omega)) ?_
    refine cS (by kernel_rfl : opAt F4.o7 5 = some (some 38, .call { callee := .value (.func 15), args := #[(.tmp 37)], argTypes := #[9] }, none)) rfl rfl (ent Try.call15 rfl) (grams_ok hF (by simp only [List.length_append, List.length_cons, List.length_nil]; omega)) ?_
    rintro vhC1 w12 ⟨hs, hC1⟩
    refine ⟨trivial, ?_⟩
    replace hF := hF.st hs
    replace hT := hT.trans hs (by simp)
    replace hl := hl.st hs (by first | decide | (simp <;> omega))
    replace hd := hd.st hs (by first | decide | (simp <;> omega)) (by first | decide | (simp <;> omega))
    replace hA := hA.st hs (by first | decide | (simp <;> omega))
    replace hP := hP.st hs (by first | decide | (simp <;> omega))
    replace hQ := hQ.st hs (by first | decide | (simp <;> omega))
    replace hB := hB.st hs (by first | decide | (simp <;> omega))
    refine cS (by kernel_rfl : opAt F4.o7 6 = some (some 39, .call { callee := .value (.func 14), args := #[(.tmp 33), (.tmp 38)], argTypes := #[23, 23] }, none)) rfl rfl (ent Try.call14 rfl) (same_ok hF hA hC1) ?_
    rintro vw13 w13 ⟨rfl, hs⟩
    rw [decide_eq_true (tokens_law1 hxx hxy)]
    refine ⟨trivial, ?_⟩
    replace hF := hF.st hs
    replace hT := hT.trans hs (by simp)
    replace hl := hl.st hs (by first | decide | (simp <;> omega))
    replace hd := hd.st hs (by first | decide | (simp <;> omega)) (by first | decide | (simp <;> omega))
    replace hA := hA.st hs (by first | decide | (simp <;> omega))
    replace hP := hP.st hs (by first | decide | (simp <;> omega))
    replace hQ := hQ.st hs (by first | decide | (simp <;> omega))
    replace hB := hB.st hs (by first | decide | (simp <;> omega))
    replace hC1 := hC1.st hs (by first | decide | (simp <;> omega))
    refine yS (by kernel_rfl : opAt F4.o7 7 = some (some 40, .move (.tmp 39), none)) rfl rfl (fun w' hS => val_move rfl) ?_
    refine yS (by kernel_rfl : opAt F4.o7 8 = some (some 41, .move (.tmp 6), (some (7, true)))) rfl rfl (fun w' hS => val_move rfl) ?_
    refine yS (by kernel_rfl : opAt F4.o7 9 = some (some 42, .move (.tmp 4), (some (7, true)))) rfl rfl (fun w' hS => val_move rfl) ?_
    refine yS (by kernel_rfl : opAt F4.o7 10 = some (some 43, .binOp .add 9 (.tmp 42) (.const (.string ⟨#[32]⟩)) 9, (some (7, true)))) rfl rfl (fun w' hS => val_cat rfl rfl (by simp only [List.length_append, List.length_cons, List.length_nil]; omega)) ?_
    refine yS (by kernel_rfl : opAt F4.o7 11 = some (some 44, .move (.tmp 5), (some (7, true)))) rfl rfl (fun w' hS => val_move rfl) ?_
    refine yS (by kernel_rfl : opAt F4.o7 12 = some (some 45, .binOp .add 9 (.tmp 43) (.tmp 44) 9, (some (7, true)))) rfl rfl (fun w' hS => val_cat rfl rfl (by simp only [List.length_append, List.length_cons, List.length_nil]; omega)) ?_
    refine yS (by kernel_rfl : opAt F4.o7 13 = some (some 46, .binOp .add 9 (.tmp 45) (.const (.string ⟨#[32]⟩)) 9, (some (7, true)))) rfl rfl (fun w' hS => val_cat rfl rfl (by simp only [List.length_append, List.length_cons, List.length_nil]; omega)) ?_
    refine yS (by kernel_rfl : opAt F4.o7 14 = some (some 47, .move (.tmp 4), (some (7, true)))) rfl rfl (fun w' hS => val_move rfl) ?_
    refine yS (by kernel_rfl : opAt F4.o7 15 = some (some 48, .binOp .add 9 (.tmp 46) (.tmp 47) 9, (some (7, true)))) rfl rfl (fun w' hS => val_cat rfl rfl (by simp only [List.length_append, List.length_cons, List.length_nil]; omega)) ?_
    refine cS (by kernel_rfl : opAt F4.o7 16 = some (some 49, .call { callee := .value (.func 15), args := #[(.tmp 48)], argTypes := #[9] }, (some (7, true)))) rfl rfl (ent Try.call15 rfl) (grams_ok hF (by simp only [List.length_append, List.length_cons, List.length_nil]; omega)) ?_
    rintro vhC2 w14 ⟨hs, hC2⟩
    refine ⟨trivial, ?_⟩
    replace hF := hF.st hs
    replace hT := hT.trans hs (by simp)
    replace hl := hl.st hs (by first | decide | (simp <;> omega))
    replace hd := hd.st hs (by first | decide | (simp <;> omega)) (by first | decide | (simp <;> omega))
    replace hA := hA.st hs (by first | decide | (simp <;> omega))
    replace hP := hP.st hs (by first | decide | (simp <;> omega))
    replace hQ := hQ.st hs (by first | decide | (simp <;> omega))
    replace hB := hB.st hs (by first | decide | (simp <;> omega))
    replace hC1 := hC1.st hs (by first | decide | (simp <;> omega))
    refine cS (by kernel_rfl : opAt F4.o7 17 = some (some 50, .call { callee := .value (.func 14), args := #[(.tmp 41), (.tmp 49)], argTypes := #[23, 23] }, (some (7, true)))) rfl rfl (ent Try.call14 rfl) (same_ok hF hA hC2) ?_
    rintro vw15 w15 ⟨rfl, hs⟩
    rw [decide_eq_true (tokens_law2 hxx hxy)]
    refine ⟨trivial, ?_⟩
    replace hF := hF.st hs
    replace hT := hT.trans hs (by simp)
    replace hl := hl.st hs (by first | decide | (simp <;> omega))
    replace hd := hd.st hs (by first | decide | (simp <;> omega)) (by first | decide | (simp <;> omega))
    replace hA := hA.st hs (by first | decide | (simp <;> omega))
    replace hP := hP.st hs (by first | decide | (simp <;> omega))
    replace hQ := hQ.st hs (by first | decide | (simp <;> omega))
    replace hB := hB.st hs (by first | decide | (simp <;> omega))
    replace hC1 := hC1.st hs (by first | decide | (simp <;> omega))
    replace hC2 := hC2.st hs (by first | decide | (simp <;> omega))
    refine yS (by kernel_rfl : opAt F4.o7 18 = some (some 51, .pick (.tmp 40) (.tmp 50) (.const (.bool false)), none)) rfl rfl (fun w' hS => val_pick_t rfl rfl) ?_
    refine yS (by kernel_rfl : opAt F4.o7 19 = some (some 52, .move (.tmp 51), none)) rfl rfl (fun w' hS => val_move rfl) ?_
    refine yS (by kernel_rfl : opAt F4.o7 20 = some (some 53, .move (.tmp 6), (some (19, true)))) rfl rfl (fun w' hS => val_move rfl) ?_
    refine yS (by kernel_rfl : opAt F4.o7 21 = some (some 54, .move (.tmp 7), (some (19, true)))) rfl rfl (fun w' hS => val_move rfl) ?_
    refine cS (by kernel_rfl : opAt F4.o7 22 = some (some 55, .call { callee := .value (.func 25), args := #[(.tmp 54)], argTypes := #[23] }, (some (19, true)))) rfl rfl (ent Try.call25 rfl) (rset_ok hF hB (by have := grams_len x.l; have := grams_len y.l; simp only [List.length_append, List.length_nil]; omega)) ?_
    rintro vhC3 w16 ⟨hs, hC3⟩
    refine ⟨trivial, ?_⟩
    replace hF := hF.st hs
    replace hT := hT.trans hs (by simp)
    replace hl := hl.st hs (by first | decide | (simp <;> omega))
    replace hd := hd.st hs (by first | decide | (simp <;> omega)) (by first | decide | (simp <;> omega))
    replace hA := hA.st hs (by first | decide | (simp <;> omega))
    replace hP := hP.st hs (by first | decide | (simp <;> omega))
    replace hQ := hQ.st hs (by first | decide | (simp <;> omega))
    replace hB := hB.st hs (by first | decide | (simp <;> omega))
    replace hC1 := hC1.st hs (by first | decide | (simp <;> omega))
    replace hC2 := hC2.st hs (by first | decide | (simp <;> omega))
    refine cS (by kernel_rfl : opAt F4.o7 23 = some (some 56, .call { callee := .value (.func 14), args := #[(.tmp 53), (.tmp 55)], argTypes := #[23, 23] }, (some (19, true)))) rfl rfl (ent Try.call14 rfl) (same_ok hF hA hC3) ?_
    rintro vw17 w17 ⟨rfl, hs⟩
    rw [decide_eq_true (tokens_law3 hxx hxy)]
    refine ⟨trivial, ?_⟩
    replace hF := hF.st hs
    replace hT := hT.trans hs (by simp)
    replace hl := hl.st hs (by first | decide | (simp <;> omega))
    replace hd := hd.st hs (by first | decide | (simp <;> omega)) (by first | decide | (simp <;> omega))
    replace hA := hA.st hs (by first | decide | (simp <;> omega))
    replace hP := hP.st hs (by first | decide | (simp <;> omega))
    replace hQ := hQ.st hs (by first | decide | (simp <;> omega))
    replace hB := hB.st hs (by first | decide | (simp <;> omega))
    replace hC1 := hC1.st hs (by first | decide | (simp <;> omega))
    replace hC2 := hC2.st hs (by first | decide | (simp <;> omega))
    replace hC3 := hC3.st hs (by first | decide | (simp <;> omega))
    refine yS (by kernel_rfl : opAt F4.o7 24 = some (some 57, .pick (.tmp 52) (.tmp 56) (.const (.bool false)), none)) rfl rfl (fun w' hS => val_pick_t rfl rfl) ?_
    refine yS (by kernel_rfl : opAt F4.o7 25 = some (some 2, .assign (.tmp 57), none)) rfl rfl (fun w' hS => val_assign rfl) ?_
    refine Sch.nil ?_
    refine run_ret1 (by kernel_rfl) Try.func4 Try.results4 rfl ?_
    exact ⟨rfl, hT.out1 (by decide)⟩
namespace F4B
noncomputable def c0 : Code := bodyOf Try.f4
noncomputable def c1 : Code := cl c0
noncomputable def o0 : Array Oper := rops c1
noncomputable def c2 : Code := cr c0
noncomputable def c3 : Code := cl c2
noncomputable def c4 : Code := cl c3
noncomputable def o1 : Array Oper := rops c4
noncomputable def c5 : Code := cr c3
noncomputable def c6 : Code := cl c5
noncomputable def c7 : Code := cl c6
noncomputable def o2 : Array Oper := rops c7
noncomputable def c8 : Code := cr c6
noncomputable def c9 : Code := cr c5
noncomputable def c10 : Code := cr c2
noncomputable def c11 : Code := cl c10
noncomputable def o3 : Array Oper := rops c11
noncomputable def c12 : Code := cr c10
noncomputable def c13 : Code := cl c12
noncomputable def o4 : Array Oper := rops c13
noncomputable def c14 : Code := cr c12
noncomputable def c15 : Code := cl c14
noncomputable def o5 : Array Oper := rops c15
noncomputable def c16 : Code := cr c14
noncomputable def c17 : Code := cl c16
noncomputable def o6 : Array Oper := rops c17
noncomputable def c18 : Code := cr c16
noncomputable def c19 : Code := cl c18
noncomputable def o7 : Array Oper := rops c19
noncomputable def c20 : Code := cr c18
end F4B
/-- .. where more is handed than it looks at. -/
theorem gramTokens_big {w₀ : World} {C : Nat → Nat} {p : Option Addr} {n c : Nat} (hF : Lim w₀ C) (hn : 400 < n) : Calls Try.prog 4 #[.slice p n c] w₀ (Ret fun v w' => v = .bool true ∧ Stp [] w₀ C w' C) := by
  have hF0 := hF
  have hT := Stp.refl [2, 3, 4, 5, 6, 7, 8, 9] w₀ (col1 C)
  replace hF := hF.col1
  refine calls_start (c := F4B.c0) (N := 58) [.slice p n c] Try.func4 (by kernel_rfl) (by kernel_rfl) (by kernel_rfl) ?_
  show Run _ _ _ _ [(0, .slice p n c)] _ _
  refine run_seq (x := F4B.c1) (y := F4B.c2) (by kernel_rfl) ?_
  refine run_plain (id := 0) (ops := F4B.o0) [(0, true)] (by kernel_rfl) (by kernel_rfl) ?_
  refine yS (by kernel_rfl : opAt F4B.o0 0 = some (some 2, .assign (.const (.bool false)), none)) rfl rfl (fun w' hS => val_assign rfl) ?_
  refine Sch.nil ?_
  refine run_seq (x := F4B.c3) (y := F4B.c10) (by kernel_rfl) ?_
  refine run_seq (x := F4B.c4) (y := F4B.c5) (by kernel_rfl) ?_
  refine run_plain (id := 1) (ops := F4B.o1) [(0, false), (1, true), (2, true), (3, true), (4, false), (5, true), (6, true)] (by kernel_rfl) (by kernel_rfl) ?_
  refine cS (by kernel_rfl : opAt F4B.o1 0 = some (some 8, .call { callee := .value (.func 8), args := #[], argTypes := #[] }, none)) rfl rfl (ent Try.call8 rfl) (awake_ok hF) ?_
  rintro vw1 w1 ⟨rfl, hs⟩
  refine ⟨trivial, ?_⟩
  replace hF := hF.st hs
  replace hT := hT.trans hs (by simp)
  refine yS (by kernel_rfl : opAt F4B.o1 1 = some (some 9, .unOp .not 4 (.tmp 8), none)) rfl rfl (fun w' hS => val_not rfl) ?_
  refine yS (by kernel_rfl : opAt F4B.o1 2 = some (some 10, .move (.tmp 9), none)) rfl rfl (fun w' hS => val_move rfl) ?_
  refine yS (by kernel_rfl : opAt F4B.o1 3 = some (some 11, .move (.tmp 0), (some (2, false)))) rfl rfl (fun w' hS => val_move rfl) ?_
  refine cS (by kernel_rfl : opAt F4B.o1 4 = some (some 12, .call { callee := .value (.func 9), args := #[(.tmp 11)], argTypes := #[22] }, (some (2, false)))) rfl rfl (ent Try.call9 rfl) (few_ok _ _ _ _) ?_
  rintro vw2 w2 ⟨rfl, rfl⟩
  refine ⟨trivial, ?_⟩
  rw [decide_eq_false (show ¬ (n : Int) ≤ 400 by omega)]
  refine yS (by kernel_rfl : opAt F4B.o1 5 = some (some 13, .unOp .not 4 (.tmp 12), (some (2, false)))) rfl rfl (fun w' hS => val_not rfl) ?_
  refine yS (by kernel_rfl : opAt F4B.o1 6 = some (some 14, .pick (.tmp 10) (.const (.bool true)) (.tmp 13), none)) rfl rfl (fun w' hS => val_pick_f rfl rfl) ?_
  refine Sch.nil ?_
  refine run_cond (x := F4B.c6) (y := F4B.c9) (o := .tmp 14) (b := true) (by kernel_rfl) rfl (fun _ => ?_) (fun h => by cases h)
  refine run_seq (x := F4B.c7) (y := F4B.c8) (by kernel_rfl) ?_
  refine run_plain (id := 2) (ops := F4B.o2) [(0, false), (1, true)] (by kernel_rfl) (by kernel_rfl) ?_
  refine cS (by kernel_rfl : opAt F4B.o2 0 = some (some 15, .call { callee := .value (.func 8), args := #[], argTypes := #[] }, none)) rfl rfl (ent Try.call8 rfl) (awake_ok hF) ?_
  rintro vw3 w3 ⟨rfl, hs⟩
  refine ⟨trivial, ?_⟩
  replace hF := hF.st hs
  replace hT := hT.trans hs (by simp)
  refine yS (by kernel_rfl : opAt F4B.o2 1 = some (some 2, .assign (.tmp 15), none)) rfl rfl (fun w' hS => val_assign rfl) ?_
  refine Sch.nil ?_
  refine run_ret1 (by kernel_rfl) Try.func4 Try.results4 rfl ?_
  exact ⟨rfl, hT.out1 (by decide)⟩
end Go.Proofs.Ythdkcbakiiokiaa
