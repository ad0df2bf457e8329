/- Steps through functions of the program. -/
import Derived.Test.YthdkcbakiiokiaaJG5
set_option linter.unusedVariables false
set_option linter.unusedSimpArgs false
set_option maxRecDepth 100000
set_option maxHeartbeats 4000000
namespace Go.Proofs.Ythdkcbakiiokiaa
open Go.K Go.K.Rep

namespace F6
noncomputable def c0 : Code := bodyOf Try.f6
noncomputable def c1 : Code := cl c0
noncomputable def o0 : Array Oper := rops c1
noncomputable def c2 : Code := cr c0
noncomputable def c3 : Code := cl c2
noncomputable def c4 : Code := cl c3
noncomputable def o1 : Array Oper := rops c4
noncomputable def c5 : Code := cr c3
noncomputable def c6 : Code := cl c5
noncomputable def c7 : Code := cl c6
noncomputable def o2 : Array Oper := rops c7
noncomputable def c8 : Code := cr c6
noncomputable def c9 : Code := cr c5
noncomputable def c10 : Code := cr c2
noncomputable def c11 : Code := cl c10
noncomputable def o3 : Array Oper := rops c11
noncomputable def c12 : Code := cr c10
noncomputable def c13 : Code := cl c12
noncomputable def o4 : Array Oper := rops c13
noncomputable def c14 : Code := cr c12
noncomputable def c15 : Code := cl c14
noncomputable def c16 : Code := cl c15
noncomputable def o5 : Array Oper := rops c16
noncomputable def c17 : Code := cr c15
noncomputable def c18 : Code := cl c17
noncomputable def o6 : Array Oper := rops c18
noncomputable def c19 : Code := cr c17
noncomputable def c20 : Code := cr c14
noncomputable def c21 : Code := cl c20
noncomputable def o7 : Array Oper := rops c21
noncomputable def c22 : Code := cr c20
noncomputable def c23 : Code := cl c22
noncomputable def o8 : Array Oper := rops c23
noncomputable def c24 : Code := cr c22
noncomputable def c25 : Code := cl c24
noncomputable def o9 : Array Oper := rops c25
noncomputable def c26 : Code := cr c24
end F6
/-- The statement's function answers true. -/
theorem gramDice_ok {w₀ : World} {C : Nat → Nat} {l : List Int} {vl : Value} (hF : Lim w₀ C) (hl : RV w₀ (Mc C) l vl) : Calls Try.prog 6 #[vl] w₀ (Ret fun v w' => v = .bool true ∧ Stp [] w₀ C w' C) := by
  have hF0 := hF
  have hT := Stp.refl [2, 3, 4, 5, 6, 7, 8, 9] w₀ (col1 C)
  replace hF := hF.col1
  replace hl : RV w₀ (Mc (col1 C)) l vl := by rw [Mc_col1]; exact hl
  refine calls_start (c := F6.c0) (N := 70) [vl] Try.func6 (by kernel_rfl) (by kernel_rfl) (by kernel_rfl) ?_
  show Run _ _ _ _ [(0, vl)] _ _
  refine run_seq (x := F6.c1) (y := F6.c2) (by kernel_rfl) ?_
  refine run_plain (id := 0) (ops := F6.o0) [(0, true)] (by kernel_rfl) (by kernel_rfl) ?_
  refine yS (by kernel_rfl : opAt F6.o0 0 = some (some 2, .assign (.const (.bool false)), none)) rfl rfl (fun w' hS => val_assign rfl) ?_
  refine Sch.nil ?_
  refine run_seq (x := F6.c3) (y := F6.c10) (by kernel_rfl) ?_
  refine run_seq (x := F6.c4) (y := F6.c5) (by kernel_rfl) ?_
  refine run_plain (id := 1) (ops := F6.o1) [(0, false), (1, true), (2, true), (3, true), (4, false), (5, true), (6, true)] (by kernel_rfl) (by kernel_rfl) ?_
  refine cS (by kernel_rfl : opAt F6.o1 0 = some (some 8, .call { callee := .value (.func 8), args := #[], argTypes := #[] }, none)) rfl rfl (ent Try.call8 rfl) (awake_ok hF) ?_
  rintro vw1 w1 ⟨rfl, hs⟩
  refine ⟨trivial, ?_⟩
  replace hF := hF.st hs
  replace hT := hT.trans hs (by simp)
  replace hl := hl.st hs (by first | decide | (simp <;> omega))
  refine yS (by kernel_rfl : opAt F6.o1 1 = some (some 9, .unOp .not 4 (.tmp 8), none)) rfl rfl (fun w' hS => val_not rfl) ?_
  refine yS (by kernel_rfl : opAt F6.o1 2 = some (some 10, .move (.tmp 9), none)) rfl rfl (fun w' hS => val_move rfl) ?_
  refine yS (by kernel_rfl : opAt F6.o1 3 = some (some 11, .move (.tmp 0), (some (2, false)))) rfl rfl (fun w' hS => val_move rfl) ?_
  refine cS (by kernel_rfl : opAt F6.o1 4 = some (some 12, .call { callee := .value (.func 9), args := #[(.tmp 11)], argTypes := #[22] }, (some (2, false)))) rfl rfl (ent Try.call9 rfl) (few_any hl) ?_
  rintro vw2 w2 ⟨rfl, rfl⟩
  refine ⟨trivial, ?_⟩
  refine yS (by kernel_rfl : opAt F6.o1 5 = some (some 13, .unOp .not 4 (.tmp 12), (some (2, false)))) rfl rfl (fun w' hS => val_notd rfl) ?_
  refine yS (by kernel_rfl : opAt F6.o1 6 = some (some 14, .pick (.tmp 10) (.const (.bool true)) (.tmp 13), none)) rfl rfl (fun w' hS => val_pick_f rfl rfl) ?_
  refine Sch.nil ?_
  refine run_if (x := F6.c6) (y := F6.c9) (o := .tmp 14) (by kernel_rfl) rfl (fun h14 => ?_) (fun h14 => ?_)
  · skip
    refine run_seq (x := F6.c7) (y := F6.c8) (by kernel_rfl) ?_
    refine run_plain (id := 2) (ops := F6.o2) [(0, false), (1, true)] (by kernel_rfl) (by kernel_rfl) ?_
    refine cS (by kernel_rfl : opAt F6.o2 0 = some (some 15, .call { callee := .value (.func 8), args := #[], argTypes := #[] }, none)) rfl rfl (ent Try.call8 rfl) (awake_ok hF) ?_
    rintro vw3 w3 ⟨rfl, hs⟩
    refine ⟨trivial, ?_⟩
    replace hF := hF.st hs
    replace hT := hT.trans hs (by simp)
    replace hl := hl.st hs (by first | decide | (simp <;> omega))
    refine yS (by kernel_rfl : opAt F6.o2 1 = some (some 2, .assign (.tmp 15), none)) rfl rfl (fun w' hS => val_assign rfl) ?_
    refine Sch.nil ?_
    refine run_ret1 (by kernel_rfl) Try.func6 Try.results6 rfl ?_
    exact ⟨rfl, hT.out1 (by decide)⟩
  · skip
    refine run_skip (by kernel_rfl) ?_
    refine run_seq (x := F6.c11) (y := F6.c12) (by kernel_rfl) ?_
    refine run_plain (id := 3) (ops := F6.o3) [(0, true), (1, false), (2, true)] (by kernel_rfl) (by kernel_rfl) ?_
    refine yS (by kernel_rfl : opAt F6.o3 0 = some (some 16, .move (.tmp 0), none)) rfl rfl (fun w' hS => val_move rfl) ?_
    refine cS (by kernel_rfl : opAt F6.o3 1 = some (some 17, .call { callee := .value (.func 11), args := #[(.tmp 16)], argTypes := #[22] }, none)) rfl rfl (ent Try.call11 rfl) (new_any hF hl) ?_
    rintro vw4 w4 ⟨Cd, bd, rfl, hs, hF, hd⟩
    refine ⟨trivial, ?_⟩
    replace hT := hT.trans hs (by simp)
    replace hl := hl.st hs (by first | decide | (simp <;> omega))
    refine yS (by kernel_rfl : opAt F6.o3 2 = some (some 3, .assign (.tmp 17), none)) rfl rfl (fun w' hS => val_assign rfl) ?_
    refine Sch.nil ?_
    refine run_seq (x := F6.c13) (y := F6.c14) (by kernel_rfl) ?_
    refine run_plain (id := 4) (ops := F6.o4) [(0, true), (1, false), (2, false), (3, true), (4, false), (5, false), (6, true), (7, true)] (by kernel_rfl) (by kernel_rfl) ?_
    refine yS (by kernel_rfl : opAt F6.o4 0 = some (some 18, .move (.tmp 3), none)) rfl rfl (fun w' hS => val_move rfl) ?_
    refine cS (by kernel_rfl : opAt F6.o4 1 = some (some 19, .call { callee := .value (.func 19), args := #[(.tmp 18)], argTypes := #[27] }, none)) rfl rfl (ent Try.call19 rfl) (token_ok hF (by decide) hd) ?_
    rintro vw5 w5 ⟨x, rfl, hxx, hs, hd⟩
    refine ⟨trivial, ?_⟩
    replace hF := hF.st hs
    replace hT := hT.trans hs (by simp)
    replace hl := hl.st hs (by first | decide | (simp <;> omega))
    have h8x := hxx.2.1
    have h1x := hxx.1
    refine cS (by kernel_rfl : opAt F6.o4 2 = some (some 20, .call { callee := .value (.func 16), args := #[(.tmp 19)], argTypes := #[9] }, none)) rfl rfl (ent Try.call16 rfl) (rgrams_ok hF (by omega)) ?_
    rintro vhA w6 ⟨hs, hA⟩
    refine ⟨trivial, ?_⟩
    replace hF := hF.st hs
    replace hT := hT.trans hs (by simp)
    replace hl := hl.st hs (by first | decide | (simp <;> omega))
    replace hd := hd.st hs (by first | decide | (simp <;> omega)) (by first | decide | (simp <;> omega))
    refine yS (by kernel_rfl : opAt F6.o4 3 = some (some 21, .move (.tmp 3), none)) rfl rfl (fun w' hS => val_move rfl) ?_
    refine cS (by kernel_rfl : opAt F6.o4 4 = some (some 22, .call { callee := .value (.func 19), args := #[(.tmp 21)], argTypes := #[27] }, none)) rfl rfl (ent Try.call19 rfl) (token_ok hF (by decide) hd) ?_
    rintro vw7 w7 ⟨y, rfl, hxy, hs, hd⟩
    refine ⟨trivial, ?_⟩
    replace hF := hF.st hs
    replace hT := hT.trans hs (by simp)
    replace hl := hl.st hs (by first | decide | (simp <;> omega))
    replace hA := hA.st hs (by first | decide | (simp <;> omega))
    have h8y := hxy.2.1
    have h1y := hxy.1
    refine cS (by kernel_rfl : opAt F6.o4 5 = some (some 23, .call { callee := .value (.func 16), args := #[(.tmp 22)], argTypes := #[9] }, none)) rfl rfl (ent Try.call16 rfl) (rgrams_ok hF (by omega)) ?_
    rintro vhB w8 ⟨hs, hB⟩
    refine ⟨trivial, ?_⟩
    replace hF := hF.st hs
    replace hT := hT.trans hs (by simp)
    replace hl := hl.st hs (by first | decide | (simp <;> omega))
    replace hd := hd.st hs (by first | decide | (simp <;> omega)) (by first | decide | (simp <;> omega))
    replace hA := hA.st hs (by first | decide | (simp <;> omega))
    refine yS (by kernel_rfl : opAt F6.o4 6 = some (some 4, .assign (.tmp 20), none)) rfl rfl (fun w' hS => val_assign rfl) ?_
    refine yS (by kernel_rfl : opAt F6.o4 7 = some (some 5, .assign (.tmp 23), none)) rfl rfl (fun w' hS => val_assign rfl) ?_
    refine Sch.nil ?_
    refine run_seq (x := F6.c15) (y := F6.c20) (by kernel_rfl) ?_
    refine run_seq (x := F6.c16) (y := F6.c17) (by kernel_rfl) ?_
    refine run_plain (id := 5) (ops := F6.o5) [(0, true), (1, false)] (by kernel_rfl) (by kernel_rfl) ?_
    refine yS (by kernel_rfl : opAt F6.o5 0 = some (some 24, .move (.tmp 3), none)) rfl rfl (fun w' hS => val_move rfl) ?_
    refine cS (by kernel_rfl : opAt F6.o5 1 = some (some 25, .call { callee := .value (.func 26), args := #[(.tmp 24), (.const (.int .i64 3))], argTypes := #[27, 3] }, none)) rfl rfl (ent Try.call26 rfl) (one_any hF (by decide) hd (by decide) (by decide)) ?_
    rintro vw9 w9 ⟨t1, rfl, hs, hd⟩
    refine ⟨trivial, ?_⟩
    replace hF := hF.st hs
    replace hT := hT.trans hs (by simp)
    replace hl := hl.st hs (by first | decide | (simp <;> omega))
    replace hA := hA.st hs (by first | decide | (simp <;> omega))
    replace hB := hB.st hs (by first | decide | (simp <;> omega))
    refine Sch.nil ?_
    refine run_cond (x := F6.c18) (y := F6.c19) (o := .tmp 25) (by kernel_rfl) rfl (fun h25 => ?_) (fun h25 => ?_)
    · skip
      refine run_plain (id := 6) (ops := F6.o6) [(0, true), (1, false), (2, true), (3, false), (4, true)] (by kernel_rfl) (by kernel_rfl) ?_
      refine yS (by kernel_rfl : opAt F6.o6 0 = some (some 26, .move (.tmp 4), none)) rfl rfl (fun w' hS => val_move rfl) ?_
      refine aS (by kernel_rfl : opAt F6.o6 1 = some (some 27, .call { callee := .builtin .append, args := #[(.const (.slice none 0 0)), (.tmp 26)], argTypes := #[23, 23] }, none)) rfl rfl (a_append (e := 9) (bytes := 16) hF (by decide) rfl rfl (by kernel_rfl) (by decide) (OwnL.nil (α := Tx) (j := 4)) hA (by have := grams_len x.l; simp only [List.length_nil]; omega) (by have := grams_len x.l; simp only [List.length_nil]; omega)) ?_
      rintro v27 w10 ⟨Cw10, hs, hn, hF⟩
      refine ⟨trivial, ?_⟩
      replace hT := hT.trans hs (by simp)
      replace hl := hl.st hs (by first | decide | (simp <;> omega))
      replace hd := hd.st hs (by first | decide | (simp <;> omega)) (by first | decide | (simp <;> omega))
      replace hA := hA.st hs (by first | decide | (simp <;> omega))
      replace hB := hB.st hs (by first | decide | (simp <;> omega))
      refine yS (by kernel_rfl : opAt F6.o6 2 = some (some 28, .move (.tmp 4), none)) rfl rfl (fun w' hS => val_move rfl) ?_
      refine aS (by kernel_rfl : opAt F6.o6 3 = some (some 29, .call { callee := .builtin .append, args := #[(.tmp 27), (.tmp 28)], argTypes := #[23, 23] }, none)) rfl rfl (a_append (e := 9) (bytes := 16) hF (by decide) rfl rfl (by kernel_rfl) (by decide) hn hA (by have := grams_len x.l; simp only [List.length_append, List.length_nil]; omega) (by have := grams_len x.l; simp only [List.length_append, List.length_nil]; omega)) ?_
      rintro v29 w11 ⟨Cw11, hs, hn, hF⟩
      refine ⟨trivial, ?_⟩
      replace hT := hT.trans hs (by simp)
      replace hl := hl.st hs (by first | decide | (simp <;> omega))
      replace hd := hd.st hs (by first | decide | (simp <;> omega)) (by first | decide | (simp <;> omega))
      replace hA := hA.st hs (by first | decide | (simp <;> omega))
      replace hB := hB.st hs (by first | decide | (simp <;> omega))
      refine yS (by kernel_rfl : opAt F6.o6 4 = some (some 5, .assign (.tmp 29), none)) rfl rfl (fun w' hS => val_assign rfl) ?_
      refine Sch.nil ?_
      clear hB
      replace hF := hF.frz 4
      replace hT := hT.frz (n := 4) (fun b => Nat.lt_of_lt_of_le (col1_lt2 C b) (by decide))
      replace hl := hl.frz 4
      replace hd := hd.frz (n := 4) (by decide)
      replace hA := hA.frz 4
      have hB_ := hn.frz (n := 4) (by decide) (by have := grams_len x.l; simp only [List.length_append, List.length_nil]; omega)
      clear hn
      have hB := hB_
      clear hB_
      rw [List.nil_append] at hB
      obtain ⟨bl, hbl⟩ : ∃ bl, bl = gramsT x.l ++ gramsT x.l := ⟨_, rfl⟩
      rw [← hbl] at hB
      have hb1 : 1 ≤ (setT bl).length ∧ (setT bl).length ≤ 9 := by rw [hbl, setT_twice]; exact gram_size hxx
      have hbL : bl.length ≤ 8450 := by rw [hbl, List.length_append]; have := grams_len x.l; omega
      refine run_seq (x := F6.c21) (y := F6.c22) (by kernel_rfl) ?_
      refine run_plain (id := 7) (ops := F6.o7) [(0, true), (1, true), (2, false), (3, true)] (by kernel_rfl) (by kernel_rfl) ?_
      have ha1 := gram_size hxx
      refine yS (by kernel_rfl : opAt F6.o7 0 = some (some 30, .move (.tmp 4), none)) rfl rfl (fun w' hS => val_move rfl) ?_
      refine yS (by kernel_rfl : opAt F6.o7 1 = some (some 31, .move (.tmp 5), none)) rfl rfl (fun w' hS => val_move rfl) ?_
      refine cS (by kernel_rfl : opAt F6.o7 2 = some (some 32, .call { callee := .value (.func 22), args := #[(.tmp 30), (.tmp 31)], argTypes := #[23, 23] }, none)) rfl rfl (ent Try.call22 rfl) (dice_ok hF hA hB (by have := grams_len x.l; omega) (by omega)) ?_
      rintro vw12 w12 ⟨rfl, hs⟩
      refine ⟨trivial, ?_⟩
      replace hF := hF.st hs
      replace hT := hT.trans hs (by simp)
      replace hl := hl.st hs (by first | decide | (simp <;> omega))
      replace hd := hd.st hs (by first | decide | (simp <;> omega)) (by first | decide | (simp <;> omega))
      replace hA := hA.st hs (by first | decide | (simp <;> omega))
      replace hB := hB.st hs (by first | decide | (simp <;> omega))
      refine yS (by kernel_rfl : opAt F6.o7 3 = some (some 6, .assign (.tmp 32), none)) rfl rfl (fun w' hS => val_assign rfl) ?_
      refine Sch.nil ?_
      refine run_seq (x := F6.c23) (y := F6.c24) (by kernel_rfl) ?_
      refine run_plain (id := 8) (ops := F6.o8) [(0, true), (1, false), (2, true), (3, false), (4, false), (5, true)] (by kernel_rfl) (by kernel_rfl) ?_
      refine yS (by kernel_rfl : opAt F6.o8 0 = some (some 33, .move (.tmp 4), none)) rfl rfl (fun w' hS => val_move rfl) ?_
      refine cS (by kernel_rfl : opAt F6.o8 1 = some (some 34, .call { callee := .value (.func 25), args := #[(.tmp 33)], argTypes := #[23] }, none)) rfl rfl (ent Try.call25 rfl) (rset_ok hF hA (by have := grams_len x.l; omega)) ?_
      rintro vhSA w13 ⟨hs, hSA⟩
      refine ⟨trivial, ?_⟩
      replace hF := hF.st hs
      replace hT := hT.trans hs (by simp)
      replace hl := hl.st hs (by first | decide | (simp <;> omega))
      replace hd := hd.st hs (by first | decide | (simp <;> omega)) (by first | decide | (simp <;> omega))
      replace hA := hA.st hs (by first | decide | (simp <;> omega))
      replace hB := hB.st hs (by first | decide | (simp <;> omega))
      refine yS (by kernel_rfl : opAt F6.o8 2 = some (some 35, .move (.tmp 5), none)) rfl rfl (fun w' hS => val_move rfl) ?_
      refine cS (by kernel_rfl : opAt F6.o8 3 = some (some 36, .call { callee := .value (.func 25), args := #[(.tmp 35)], argTypes := #[23] }, none)) rfl rfl (ent Try.call25 rfl) (rset_ok hF hB (by omega)) ?_
      rintro vhSB w14 ⟨hs, hSB⟩
      refine ⟨trivial, ?_⟩
      replace hF := hF.st hs
      replace hT := hT.trans hs (by simp)
      replace hl := hl.st hs (by first | decide | (simp <;> omega))
      replace hd := hd.st hs (by first | decide | (simp <;> omega)) (by first | decide | (simp <;> omega))
      replace hA := hA.st hs (by first | decide | (simp <;> omega))
      replace hB := hB.st hs (by first | decide | (simp <;> omega))
      replace hSA := hSA.st hs (by first | decide | (simp <;> omega))
      refine cS (by kernel_rfl : opAt F6.o8 4 = some (some 37, .call { callee := .value (.func 14), args := #[(.tmp 34), (.tmp 36)], argTypes := #[23, 23] }, none)) rfl rfl (ent Try.call14 rfl) (same_ok hF hSA hSB) ?_
      rintro vw15 w15 ⟨rfl, hs⟩
      refine ⟨trivial, ?_⟩
      replace hF := hF.st hs
      replace hT := hT.trans hs (by simp)
      replace hl := hl.st hs (by first | decide | (simp <;> omega))
      replace hd := hd.st hs (by first | decide | (simp <;> omega)) (by first | decide | (simp <;> omega))
      replace hA := hA.st hs (by first | decide | (simp <;> omega))
      replace hB := hB.st hs (by first | decide | (simp <;> omega))
      replace hSA := hSA.st hs (by first | decide | (simp <;> omega))
      replace hSB := hSB.st hs (by first | decide | (simp <;> omega))
      refine yS (by kernel_rfl : opAt F6.o8 5 = some (some 7, .assign (.tmp 37), none)) rfl rfl (fun w' hS => val_assign rfl) ?_
      refine Sch.nil ?_
      refine run_seq (x := F6.c25) (y := F6.c26) (by kernel_rfl) ?_
      refine run_plain (id := 9) (ops := F6.o9) [(0, true), (1, true), (2, true), (3, false), (4, true), (5, true), (6, true), (7, true), (8, true), (9, true), (10, true), (11, true), (12, true), (13, true), (14, true), (15, true), (16, true), (17, true), (18, true), (19, true), (20, true), (21, true), (22, false), (23, true), (24, true), (25, false), (26, true), (27, true), (28, true), (29, false), (30, true), (31, true), (32, true)] (by kernel_rfl) (by kernel_rfl) ?_
      refine yS (by kernel_rfl : opAt F6.o9 0 = some (some 38, .move (.tmp 6), none)) rfl rfl (fun w' hS => val_move rfl) ?_
      refine yS (by kernel_rfl : opAt F6.o9 1 = some (some 39, .move (.tmp 5), none)) rfl rfl (fun w' hS => val_move rfl) ?_
      refine yS (by kernel_rfl : opAt F6.o9 2 = some (some 40, .move (.tmp 4), none)) rfl rfl (fun w' hS => val_move rfl) ?_
      refine cS (by kernel_rfl : opAt F6.o9 3 = some (some 41, .call { callee := .value (.func 22), args := #[(.tmp 39), (.tmp 40)], argTypes := #[23, 23] }, none)) rfl rfl (ent Try.call22 rfl) (dice_ok hF hB hA (by omega) (by have := grams_len x.l; omega)) ?_
      rintro vw16 w16 ⟨rfl, hs⟩
      refine ⟨trivial, ?_⟩
      replace hF := hF.st hs
      replace hT := hT.trans hs (by simp)
      replace hl := hl.st hs (by first | decide | (simp <;> omega))
      replace hd := hd.st hs (by first | decide | (simp <;> omega)) (by first | decide | (simp <;> omega))
      replace hA := hA.st hs (by first | decide | (simp <;> omega))
      replace hB := hB.st hs (by first | decide | (simp <;> omega))
      replace hSA := hSA.st hs (by first | decide | (simp <;> omega))
      replace hSB := hSB.st hs (by first | decide | (simp <;> omega))
      refine yS (by kernel_rfl : opAt F6.o9 4 = some (some 42, .binOp .eql 3 (.tmp 38) (.tmp 41) 3, none)) rfl rfl (fun w' hS => val_T (val_eql rfl rfl) (dice_symm _ _)) ?_
      refine yS (by kernel_rfl : opAt F6.o9 5 = some (some 43, .move (.tmp 42), none)) rfl rfl (fun w' hS => val_move rfl) ?_
      refine yS (by kernel_rfl : opAt F6.o9 6 = some (some 44, .move (.tmp 6), (some (5, true)))) rfl rfl (fun w' hS => val_move rfl) ?_
      refine yS (by kernel_rfl : opAt F6.o9 7 = some (some 45, .binOp .geq 3 (.tmp 44) (.const (.int .i64 0)) 3, (some (5, true)))) rfl rfl (fun w' hS => val_T (val_geq rfl rfl) (dice_range _ _).1) ?_
      refine yS (by kernel_rfl : opAt F6.o9 8 = some (some 46, .pick (.tmp 43) (.tmp 45) (.const (.bool false)), none)) rfl rfl (fun w' hS => val_pick_t rfl rfl) ?_
      refine yS (by kernel_rfl : opAt F6.o9 9 = some (some 47, .move (.tmp 46), none)) rfl rfl (fun w' hS => val_move rfl) ?_
      refine yS (by kernel_rfl : opAt F6.o9 10 = some (some 48, .move (.tmp 6), (some (9, true)))) rfl rfl (fun w' hS => val_move rfl) ?_
      refine yS (by kernel_rfl : opAt F6.o9 11 = some (some 49, .binOp .leq 3 (.tmp 48) (.const (.int .i64 1000)) 3, (some (9, true)))) rfl rfl (fun w' hS => val_T (val_leq rfl rfl) (dice_range _ _).2) ?_
      refine yS (by kernel_rfl : opAt F6.o9 12 = some (some 50, .pick (.tmp 47) (.tmp 49) (.const (.bool false)), none)) rfl rfl (fun w' hS => val_pick_t rfl rfl) ?_
      refine yS (by kernel_rfl : opAt F6.o9 13 = some (some 51, .move (.tmp 50), none)) rfl rfl (fun w' hS => val_move rfl) ?_
      refine yS (by kernel_rfl : opAt F6.o9 14 = some (some 52, .move (.tmp 6), (some (13, true)))) rfl rfl (fun w' hS => val_move rfl) ?_
      refine yS (by kernel_rfl : opAt F6.o9 15 = some (some 53, .binOp .eql 3 (.tmp 52) (.const (.int .i64 1000)) 3, (some (13, true)))) rfl rfl (fun w' hS => val_eql rfl rfl) ?_
      refine yS (by kernel_rfl : opAt F6.o9 16 = some (some 54, .move (.tmp 7), (some (13, true)))) rfl rfl (fun w' hS => val_move rfl) ?_
      refine yS (by kernel_rfl : opAt F6.o9 17 = some (some 55, .binOp .eql 4 (.tmp 53) (.tmp 54) 4, (some (13, true)))) rfl rfl (fun w' hS => val_is (val_eqBl rfl rfl Try.underlying4) (eq_bool (decide_eq_true (by rw [decide_eq_decide]; exact dice_thousand ha1.1 (by omega))))) ?_
      refine yS (by kernel_rfl : opAt F6.o9 18 = some (some 56, .pick (.tmp 51) (.tmp 55) (.const (.bool false)), none)) rfl rfl (fun w' hS => val_pick_t rfl rfl) ?_
      refine yS (by kernel_rfl : opAt F6.o9 19 = some (some 57, .move (.tmp 56), none)) rfl rfl (fun w' hS => val_move rfl) ?_
      refine yS (by kernel_rfl : opAt F6.o9 20 = some (some 58, .move (.tmp 4), (some (19, true)))) rfl rfl (fun w' hS => val_move rfl) ?_
      refine yS (by kernel_rfl : opAt F6.o9 21 = some (some 59, .move (.tmp 5), (some (19, true)))) rfl rfl (fun w' hS => val_move rfl) ?_
      refine cS (by kernel_rfl : opAt F6.o9 22 = some (some 60, .call { callee := .value (.func 20), args := #[(.tmp 58), (.tmp 59)], argTypes := #[23, 23] }, (some (19, true)))) rfl rfl (ent Try.call20 rfl) (common_ok hF hA hB (by have := grams_len x.l; omega) (by omega)) ?_
      rintro vw17 w17 ⟨rfl, hs⟩
      refine ⟨trivial, ?_⟩
      replace hF := hF.st hs
      replace hT := hT.trans hs (by simp)
      replace hl := hl.st hs (by first | decide | (simp <;> omega))
      replace hd := hd.st hs (by first | decide | (simp <;> omega)) (by first | decide | (simp <;> omega))
      replace hA := hA.st hs (by first | decide | (simp <;> omega))
      replace hB := hB.st hs (by first | decide | (simp <;> omega))
      replace hSA := hSA.st hs (by first | decide | (simp <;> omega))
      replace hSB := hSB.st hs (by first | decide | (simp <;> omega))
      refine yS (by kernel_rfl : opAt F6.o9 23 = some (some 61, .move (.tmp 5), (some (19, true)))) rfl rfl (fun w' hS => val_move rfl) ?_
      refine yS (by kernel_rfl : opAt F6.o9 24 = some (some 62, .move (.tmp 4), (some (19, true)))) rfl rfl (fun w' hS => val_move rfl) ?_
      refine cS (by kernel_rfl : opAt F6.o9 25 = some (some 63, .call { callee := .value (.func 20), args := #[(.tmp 61), (.tmp 62)], argTypes := #[23, 23] }, (some (19, true)))) rfl rfl (ent Try.call20 rfl) (common_ok hF hB hA (by omega) (by have := grams_len x.l; omega)) ?_
      rintro vw18 w18 ⟨rfl, hs⟩
      refine ⟨trivial, ?_⟩
      replace hF := hF.st hs
      replace hT := hT.trans hs (by simp)
      replace hl := hl.st hs (by first | decide | (simp <;> omega))
      replace hd := hd.st hs (by first | decide | (simp <;> omega)) (by first | decide | (simp <;> omega))
      replace hA := hA.st hs (by first | decide | (simp <;> omega))
      replace hB := hB.st hs (by first | decide | (simp <;> omega))
      replace hSA := hSA.st hs (by first | decide | (simp <;> omega))
      replace hSB := hSB.st hs (by first | decide | (simp <;> omega))
      refine yS (by kernel_rfl : opAt F6.o9 26 = some (some 64, .binOp .eql 3 (.tmp 60) (.tmp 63) 3, (some (19, true)))) rfl rfl (fun w' hS => val_T (val_eql rfl rfl) (by rw [commonT_symm])) ?_
      refine yS (by kernel_rfl : opAt F6.o9 27 = some (some 65, .pick (.tmp 57) (.tmp 64) (.const (.bool false)), none)) rfl rfl (fun w' hS => val_pick_t rfl rfl) ?_
      refine yS (by kernel_rfl : opAt F6.o9 28 = some (some 66, .move (.tmp 65), none)) rfl rfl (fun w' hS => val_move rfl) ?_
      refine cS (by kernel_rfl : opAt F6.o9 29 = some (some 67, .call { callee := .value (.func 22), args := #[(.const (.slice none 0 0)), (.const (.slice none 0 0))], argTypes := #[23, 23] }, (some (28, true)))) rfl rfl (ent Try.call22 rfl) (dice_ok hF rv_nil rv_nil (by decide) (by decide)) ?_
      rintro vw19 w19 ⟨rfl, hs⟩
      refine ⟨trivial, ?_⟩
      replace hF := hF.st hs
      replace hT := hT.trans hs (by simp)
      replace hl := hl.st hs (by first | decide | (simp <;> omega))
      replace hd := hd.st hs (by first | decide | (simp <;> omega)) (by first | decide | (simp <;> omega))
      replace hA := hA.st hs (by first | decide | (simp <;> omega))
      replace hB := hB.st hs (by first | decide | (simp <;> omega))
      replace hSA := hSA.st hs (by first | decide | (simp <;> omega))
      replace hSB := hSB.st hs (by first | decide | (simp <;> omega))
      refine yS (by kernel_rfl : opAt F6.o9 30 = some (some 68, .binOp .eql 3 (.tmp 67) (.const (.int .i64 0)) 3, (some (28, true)))) rfl rfl (fun w' hS => val_T (val_eql rfl rfl) dice_nil) ?_
      refine yS (by kernel_rfl : opAt F6.o9 31 = some (some 69, .pick (.tmp 66) (.tmp 68) (.const (.bool false)), none)) rfl rfl (fun w' hS => val_pick_t rfl rfl) ?_
      refine yS (by kernel_rfl : opAt F6.o9 32 = some (some 2, .assign (.tmp 69), none)) rfl rfl (fun w' hS => val_assign rfl) ?_
      refine Sch.nil ?_
      refine run_ret1 (by kernel_rfl) Try.func6 Try.results6 rfl ?_
      exact ⟨rfl, hT.out1 (by decide)⟩
    · skip
      obtain ⟨bl, hbl⟩ : ∃ bl, bl = gramsT y.l := ⟨_, rfl⟩
      rw [← hbl] at hB
      have hb1 : 1 ≤ (setT bl).length ∧ (setT bl).length ≤ 9 := by rw [hbl]; exact gram_size hxy
      have hbL : bl.length ≤ 8450 := by rw [hbl]; have := grams_len y.l; omega
      refine run_skip (by kernel_rfl) ?_
      refine run_seq (x := F6.c21) (y := F6.c22) (by kernel_rfl) ?_
      refine run_plain (id := 7) (ops := F6.o7) [(0, true), (1, true), (2, false), (3, true)] (by kernel_rfl) (by kernel_rfl) ?_
      have ha1 := gram_size hxx
      refine yS (by kernel_rfl : opAt F6.o7 0 = some (some 30, .move (.tmp 4), none)) rfl rfl (fun w' hS => val_move rfl) ?_
      refine yS (by kernel_rfl : opAt F6.o7 1 = some (some 31, .move (.tmp 5), none)) rfl rfl (fun w' hS => val_move rfl) ?_
      refine cS (by kernel_rfl : opAt F6.o7 2 = some (some 32, .call { callee := .value (.func 22), args := #[(.tmp 30), (.tmp 31)], argTypes := #[23, 23] }, none)) rfl rfl (ent Try.call22 rfl) (dice_ok hF hA hB (by have := grams_len x.l; omega) (by omega)) ?_
      rintro vw20 w20 ⟨rfl, hs⟩
      refine ⟨trivial, ?_⟩
      replace hF := hF.st hs
      replace hT := hT.trans hs (by simp)
      replace hl := hl.st hs (by first | decide | (simp <;> omega))
      replace hd := hd.st hs (by first | decide | (simp <;> omega)) (by first | decide | (simp <;> omega))
      replace hA := hA.st hs (by first | decide | (simp <;> omega))
      replace hB := hB.st hs (by first | decide | (simp <;> omega))
      refine yS (by kernel_rfl : opAt F6.o7 3 = some (some 6, .assign (.tmp 32), none)) rfl rfl (fun w' hS => val_assign rfl) ?_
      refine Sch.nil ?_
      refine run_seq (x := F6.c23) (y := F6.c24) (by kernel_rfl) ?_
      refine run_plain (id := 8) (ops := F6.o8) [(0, true), (1, false), (2, true), (3, false), (4, false), (5, true)] (by kernel_rfl) (by kernel_rfl) ?_
      refine yS (by kernel_rfl : opAt F6.o8 0 = some (some 33, .move (.tmp 4), none)) rfl rfl (fun w' hS => val_move rfl) ?_
      refine cS (by kernel_rfl : opAt F6.o8 1 = some (some 34, .call { callee := .value (.func 25), args := #[(.tmp 33)], argTypes := #[23] }, none)) rfl rfl (ent Try.call25 rfl) (rset_ok hF hA (by have := grams_len x.l; omega)) ?_
      rintro vhSA w21 ⟨hs, hSA⟩
      refine ⟨trivial, ?_⟩
      replace hF := hF.st hs
      replace hT := hT.trans hs (by simp)
      replace hl := hl.st hs (by first | decide | (simp <;> omega))
      replace hd := hd.st hs (by first | decide | (simp <;> omega)) (by first | decide | (simp <;> omega))
      replace hA := hA.st hs (by first | decide | (simp <;> omega))
      replace hB := hB.st hs (by first | decide | (simp <;> omega))
      refine yS (by kernel_rfl : opAt F6.o8 2 = some (some 35, .move (.tmp 5), none)) rfl rfl (fun w' hS => val_move rfl) ?_
      refine cS (by kernel_rfl : opAt F6.o8 3 = some (some 36, .call { callee := .value (.func 25), args := #[(.tmp 35)], argTypes := #[23] }, none)) rfl rfl (ent Try.call25 rfl) (rset_ok hF hB (by omega)) ?_
      rintro vhSB w22 ⟨hs, hSB⟩
      refine ⟨trivial, ?_⟩
      replace hF := hF.st hs
      replace hT := hT.trans hs (by simp)
      replace hl := hl.st hs (by first | decide | (simp <;> omega))
      replace hd := hd.st hs (by first | decide | (simp <;> omega)) (by first | decide | (simp <;> omega))
      replace hA := hA.st hs (by first | decide | (simp <;> omega))
      replace hB := hB.st hs (by first | decide | (simp <;> omega))
      replace hSA := hSA.st hs (by first | decide | (simp <;> omega))
      refine cS (by kernel_rfl : opAt F6.o8 4 = some (some 37, .call { callee := .value (.func 14), args := #[(.tmp 34), (.tmp 36)], argTypes := #[23, 23] }, none)) rfl rfl (ent Try.call14 rfl) (same_ok hF hSA hSB) ?_
      rintro vw23 w23 ⟨rfl, hs⟩
      refine ⟨trivial, ?_⟩
      replace hF := hF.st hs
      replace hT := hT.trans hs (by simp)
      replace hl := hl.st hs (by first | decide | (simp <;> omega))
      replace hd := hd.st hs (by first | decide | (simp <;> omega)) (by first | decide | (simp <;> omega))
      replace hA := hA.st hs (by first | decide | (simp <;> omega))
      replace hB := hB.st hs (by first | decide | (simp <;> omega))
      replace hSA := hSA.st hs (by first | decide | (simp <;> omega))
      replace hSB := hSB.st hs (by first | decide | (simp <;> omega))
      refine yS (by kernel_rfl : opAt F6.o8 5 = some (some 7, .assign (.tmp 37), none)) rfl rfl (fun w' hS => val_assign rfl) ?_
      refine Sch.nil ?_
      refine run_seq (x := F6.c25) (y := F6.c26) (by kernel_rfl) ?_
      refine run_plain (id := 9) (ops := F6.o9) [(0, true), (1, true), (2, true), (3, false), (4, true), (5, true), (6, true), (7, true), (8, true), (9, true), (10, true), (11, true), (12, true), (13, true), (14, true), (15, true), (16, true), (17, true), (18, true), (19, true), (20, true), (21, true), (22, false), (23, true), (24, true), (25, false), (26, true), (27, true), (28, true), (29, false), (30, true), (31, true), (32, true)] (by kernel_rfl) (by kernel_rfl) ?_
      refine yS (by kernel_rfl : opAt F6.o9 0 = some (some 38, .move (.tmp 6), none)) rfl rfl (fun w' hS => val_move rfl) ?_
      refine yS (by kernel_rfl : opAt F6.o9 1 = some (some 39, .move (.tmp 5), none)) rfl rfl (fun w' hS => val_move rfl) ?_
      refine yS (by kernel_rfl : opAt F6.o9 2 = some (some 40, .move (.tmp 4), none)) rfl rfl (fun w' hS => val_move rfl) ?_
      refine cS (by kernel_rfl : opAt F6.o9 3 = some (some 41, .call { callee := .value (.func 22), args := #[(.tmp 39), (.tmp 40)], argTypes := #[23, 23] }, none)) rfl rfl (ent Try.call22 rfl) (dice_ok hF hB hA (by omega) (by have := grams_len x.l; omega)) ?_
      rintro vw24 w24 ⟨rfl, hs⟩
      refine ⟨trivial, ?_⟩
      replace hF := hF.st hs
      replace hT := hT.trans hs (by simp)
      replace hl := hl.st hs (by first | decide | (simp <;> omega))
      replace hd := hd.st hs (by first | decide | (simp <;> omega)) (by first | decide | (simp <;> omega))
      replace hA := hA.st hs (by first | decide | (simp <;> omega))
      replace hB := hB.st hs (by first | decide | (simp <;> omega))
      replace hSA := hSA.st hs (by first | decide | (simp <;> omega))
      replace hSB := hSB.st hs (by first | decide | (simp <;> omega))
      refine yS (by kernel_rfl : opAt F6.o9 4 = some (some 42, .binOp .eql 3 (.tmp 38) (.tmp 41) 3, none)) rfl rfl (fun w' hS => val_T (val_eql rfl rfl) (dice_symm _ _)) ?_
      refine yS (by kernel_rfl : opAt F6.o9 5 = some (some 43, .move (.tmp 42), none)) rfl rfl (fun w' hS => val_move rfl) ?_
      refine yS (by kernel_rfl : opAt F6.o9 6 = some (some 44, .move (.tmp 6), (some (5, true)))) rfl rfl (fun w' hS => val_move rfl) ?_
      refine yS (by kernel_rfl : opAt F6.o9 7 = some (some 45, .binOp .geq 3 (.tmp 44) (.const (.int .i64 0)) 3, (some (5, true)))) rfl rfl (fun w' hS => val_T (val_geq rfl rfl) (dice_range _ _).1) ?_
      refine yS (by kernel_rfl : opAt F6.o9 8 = some (some 46, .pick (.tmp 43) (.tmp 45) (.const (.bool false)), none)) rfl rfl (fun w' hS => val_pick_t rfl rfl) ?_
      refine yS (by kernel_rfl : opAt F6.o9 9 = some (some 47, .move (.tmp 46), none)) rfl rfl (fun w' hS => val_move rfl) ?_
      refine yS (by kernel_rfl : opAt F6.o9 10 = some (some 48, .move (.tmp 6), (some (9, true)))) rfl rfl (fun w' hS => val_move rfl) ?_
      refine yS (by kernel_rfl : opAt F6.o9 11 = some (some 49, .binOp .leq 3 (.tmp 48) (.const (.int .i64 1000)) 3, (some (9, true)))) rfl rfl (fun w' hS => val_T (val_leq rfl rfl) (dice_range _ _).2) ?_
      refine yS (by kernel_rfl : opAt F6.o9 12 = some (some 50, .pick (.tmp 47) (.tmp 49) (.const (.bool false)), none)) rfl rfl (fun w' hS => val_pick_t rfl rfl) ?_
      refine yS (by kernel_rfl : opAt F6.o9 13 = some (some 51, .move (.tmp 50), none)) rfl rfl (fun w' hS => val_move rfl) ?_
      refine yS (by kernel_rfl : opAt F6.o9 14 = some (some 52, .move (.tmp 6), (some (13, true)))) rfl rfl (fun w' hS => val_move rfl) ?_
      refine yS (by kernel_rfl : opAt F6.o9 15 = some (some 53, .binOp .eql 3 (.tmp 52) (.const (.int .i64 1000)) 3, (some (13, true)))) rfl rfl (fun w' hS => val_eql rfl rfl) ?_
      refine yS (by kernel_rfl : opAt F6.o9 16 = some (some 54, .move (.tmp 7), (some (13, true)))) rfl rfl (fun w' hS => val_move rfl) ?_
      refine yS (by kernel_rfl : opAt F6.o9 17 = some (some 55, .binOp .eql 4 (.tmp 53) (.tmp 54) 4, (some (13, true)))) rfl rfl (fun w' hS => val_is (val_eqBl rfl rfl Try.underlying4) (eq_bool (decide_eq_true (by rw [decide_eq_decide]; exact dice_thousand ha1.1 (by omega))))) ?_
      refine yS (by kernel_rfl : opAt F6.o9 18 = some (some 56, .pick (.tmp 51) (.tmp 55) (.const (.bool false)), none)) rfl rfl (fun w' hS => val_pick_t rfl rfl) ?_
      refine yS (by kernel_rfl : opAt F6.o9 19 = some (some 57, .move (.tmp 56), none)) rfl rfl (fun w' hS => val_move rfl) ?_
      refine yS (by kernel_rfl : opAt F6.o9 20 = some (some 58, .move (.tmp 4), (some (19, true)))) rfl rfl (fun w' hS => val_move rfl) ?_
      refine yS (by kernel_rfl : opAt F6.o9 21 = some (some 59, .move (.tmp 5), (some (19, true)))) rfl rfl (fun w' hS => val_move rfl) ?_
      refine cS (by kernel_rfl : opAt F6.o9 22 = some (some 60, .call { callee := .value (.func 20), args := #[(.tmp 58), (.tmp 59)], argTypes := #[23, 23] }, (some (19, true)))) rfl rfl (ent Try.call20 rfl) (common_ok hF hA hB (by have := grams_len x.l; omega) (by omega)) ?_
      rintro vw25 w25 ⟨rfl, hs⟩
      refine ⟨trivial, ?_⟩
      replace hF := hF.st hs
      replace hT := hT.trans hs (by simp)
      replace hl := hl.st hs (by first | decide | (simp <;> omega))
      replace hd := hd.st hs (by first | decide | (simp <;> omega)) (by first | decide | (simp <;> omega))
      replace hA := hA.st hs (by first | decide | (simp <;> omega))
      replace hB := hB.st hs (by first | decide | (simp <;> omega))
      replace hSA := hSA.st hs (by first | decide | (simp <;> omega))
      replace hSB := hSB.st hs (by first | decide | (simp <;> omega))
      refine yS (by kernel_rfl : opAt F6.o9 23 = some (some 61, .move (.tmp 5), (some (19, true)))) rfl rfl (fun w' hS => val_move rfl) ?_
      refine yS (by kernel_rfl : opAt F6.o9 24 = some (some 62, .move (.tmp 4), (some (19, true)))) rfl rfl (fun w' hS => val_move rfl) ?_
      refine cS (by kernel_rfl : opAt F6.o9 25 = some (some 63, .call { callee := .value (.func 20), args := #[(.tmp 61), (.tmp 62)], argTypes := #[23, 23] }, (some (19, true)))) rfl rfl (ent Try.call20 rfl) (common_ok hF hB hA (by omega) (by have := grams_len x.l; omega)) ?_
      rintro vw26 w26 ⟨rfl, hs⟩
      refine ⟨trivial, ?_⟩
      replace hF := hF.st hs
      replace hT := hT.trans hs (by simp)
      replace hl := hl.st hs (by first | decide | (simp <;> omega))
      replace hd := hd.st hs (by first | decide | (simp <;> omega)) (by first | decide | (simp <;> omega))
      replace hA := hA.st hs (by first | decide | (simp <;> omega))
      replace hB := hB.st hs (by first | decide | (simp <;> omega))
      replace hSA := hSA.st hs (by first | decide | (simp <;> omega))
      replace hSB := hSB.st hs (by first | decide | (simp <;> omega))
      refine yS (by kernel_rfl : opAt F6.o9 26 = some (some 64, .binOp .eql 3 (.tmp 60) (.tmp 63) 3, (some (19, true)))) rfl rfl (fun w' hS => val_T (val_eql rfl rfl) (by rw [commonT_symm])) ?_
      refine yS (by kernel_rfl : opAt F6.o9 27 = some (some 65, .pick (.tmp 57) (.tmp 64) (.const (.bool false)), none)) rfl rfl (fun w' hS => val_pick_t rfl rfl) ?_
      refine yS (by kernel_rfl : opAt F6.o9 28 = some (some 66, .move (.tmp 65), none)) rfl rfl (fun w' hS => val_move rfl) ?_
      refine cS (by kernel_rfl : opAt F6.o9 29 = some (some 67, .call { callee := .value (.func 22), args := #[(.const (.slice none 0 0)), (.const (.slice none 0 0))], argTypes := #[23, 23] }, (some (28, true)))) rfl rfl (ent Try.call22 rfl) (dice_ok hF rv_nil rv_nil (by decide) (by decide)) ?_
      rintro vw27 w27 ⟨rfl, hs⟩
      refine ⟨trivial, ?_⟩
      replace hF := hF.st hs
      replace hT := hT.trans hs (by simp)
      replace hl := hl.st hs (by first | decide | (simp <;> omega))
      replace hd := hd.st hs (by first | decide | (simp <;> omega)) (by first | decide | (simp <;> omega))
      replace hA := hA.st hs (by first | decide | (simp <;> omega))
      replace hB := hB.st hs (by first | decide | (simp <;> omega))
      replace hSA := hSA.st hs (by first | decide | (simp <;> omega))
      replace hSB := hSB.st hs (by first | decide | (simp <;> omega))
      refine yS (by kernel_rfl : opAt F6.o9 30 = some (some 68, .binOp .eql 3 (.tmp 67) (.const (.int .i64 0)) 3, (some (28, true)))) rfl rfl (fun w' hS => val_T (val_eql rfl rfl) dice_nil) ?_
      refine yS (by kernel_rfl : opAt F6.o9 31 = some (some 69, .pick (.tmp 66) (.tmp 68) (.const (.bool false)), none)) rfl rfl (fun w' hS => val_pick_t rfl rfl) ?_
      refine yS (by kernel_rfl : opAt F6.o9 32 = some (some 2, .assign (.tmp 69), none)) rfl rfl (fun w' hS => val_assign rfl) ?_
      refine Sch.nil ?_
      refine run_ret1 (by kernel_rfl) Try.func6 Try.results6 rfl ?_
      exact ⟨rfl, hT.out1 (by decide)⟩
namespace F6B
noncomputable def c0 : Code := bodyOf Try.f6
noncomputable def c1 : Code := cl c0
noncomputable def o0 : Array Oper := rops c1
noncomputable def c2 : Code := cr c0
noncomputable def c3 : Code := cl c2
noncomputable def c4 : Code := cl c3
noncomputable def o1 : Array Oper := rops c4
noncomputable def c5 : Code := cr c3
noncomputable def c6 : Code := cl c5
noncomputable def c7 : Code := cl c6
noncomputable def o2 : Array Oper := rops c7
noncomputable def c8 : Code := cr c6
noncomputable def c9 : Code := cr c5
noncomputable def c10 : Code := cr c2
noncomputable def c11 : Code := cl c10
noncomputable def o3 : Array Oper := rops c11
noncomputable def c12 : Code := cr c10
noncomputable def c13 : Code := cl c12
noncomputable def o4 : Array Oper := rops c13
noncomputable def c14 : Code := cr c12
noncomputable def c15 : Code := cl c14
noncomputable def c16 : Code := cl c15
noncomputable def o5 : Array Oper := rops c16
noncomputable def c17 : Code := cr c15
noncomputable def c18 : Code := cl c17
noncomputable def o6 : Array Oper := rops c18
noncomputable def c19 : Code := cr c17
noncomputable def c20 : Code := cr c14
noncomputable def c21 : Code := cl c20
noncomputable def o7 : Array Oper := rops c21
noncomputable def c22 : Code := cr c20
noncomputable def c23 : Code := cl c22
noncomputable def o8 : Array Oper := rops c23
noncomputable def c24 : Code := cr c22
noncomputable def c25 : Code := cl c24
noncomputable def o9 : Array Oper := rops c25
noncomputable def c26 : Code := cr c24
end F6B
/-- .. where more is handed than it looks at. -/
theorem gramDice_big {w₀ : World} {C : Nat → Nat} {p : Option Addr} {n c : Nat} (hF : Lim w₀ C) (hn : 400 < n) : Calls Try.prog 6 #[.slice p n c] w₀ (Ret fun v w' => v = .bool true ∧ Stp [] w₀ C w' C) := by
  have hF0 := hF
  have hT := Stp.refl [2, 3, 4, 5, 6, 7, 8, 9] w₀ (col1 C)
  replace hF := hF.col1
  refine calls_start (c := F6B.c0) (N := 70) [.slice p n c] Try.func6 (by kernel_rfl) (by kernel_rfl) (by kernel_rfl) ?_
  show Run _ _ _ _ [(0, .slice p n c)] _ _
  refine run_seq (x := F6B.c1) (y := F6B.c2) (by kernel_rfl) ?_
  refine run_plain (id := 0) (ops := F6B.o0) [(0, true)] (by kernel_rfl) (by kernel_rfl) ?_
  refine yS (by kernel_rfl : opAt F6B.o0 0 = some (some 2, .assign (.const (.bool false)), none)) rfl rfl (fun w' hS => val_assign rfl) ?_
  refine Sch.nil ?_
  refine run_seq (x := F6B.c3) (y := F6B.c10) (by kernel_rfl) ?_
  refine run_seq (x := F6B.c4) (y := F6B.c5) (by kernel_rfl) ?_
  refine run_plain (id := 1) (ops := F6B.o1) [(0, false), (1, true), (2, true), (3, true), (4, false), (5, true), (6, true)] (by kernel_rfl) (by kernel_rfl) ?_
  refine cS (by kernel_rfl : opAt F6B.o1 0 = some (some 8, .call { callee := .value (.func 8), args := #[], argTypes := #[] }, none)) rfl rfl (ent Try.call8 rfl) (awake_ok hF) ?_
  rintro vw1 w1 ⟨rfl, hs⟩
  refine ⟨trivial, ?_⟩
  replace hF := hF.st hs
  replace hT := hT.trans hs (by simp)
  refine yS (by kernel_rfl : opAt F6B.o1 1 = some (some 9, .unOp .not 4 (.tmp 8), none)) rfl rfl (fun w' hS => val_not rfl) ?_
  refine yS (by kernel_rfl : opAt F6B.o1 2 = some (some 10, .move (.tmp 9), none)) rfl rfl (fun w' hS => val_move rfl) ?_
  refine yS (by kernel_rfl : opAt F6B.o1 3 = some (some 11, .move (.tmp 0), (some (2, false)))) rfl rfl (fun w' hS => val_move rfl) ?_
  refine cS (by kernel_rfl : opAt F6B.o1 4 = some (some 12, .call { callee := .value (.func 9), args := #[(.tmp 11)], argTypes := #[22] }, (some (2, false)))) rfl rfl (ent Try.call9 rfl) (few_ok _ _ _ _) ?_
  rintro vw2 w2 ⟨rfl, rfl⟩
  refine ⟨trivial, ?_⟩
  rw [decide_eq_false (show ¬ (n : Int) ≤ 400 by omega)]
  refine yS (by kernel_rfl : opAt F6B.o1 5 = some (some 13, .unOp .not 4 (.tmp 12), (some (2, false)))) rfl rfl (fun w' hS => val_not rfl) ?_
  refine yS (by kernel_rfl : opAt F6B.o1 6 = some (some 14, .pick (.tmp 10) (.const (.bool true)) (.tmp 13), none)) rfl rfl (fun w' hS => val_pick_f rfl rfl) ?_
  refine Sch.nil ?_
  refine run_cond (x := F6B.c6) (y := F6B.c9) (o := .tmp 14) (b := true) (by kernel_rfl) rfl (fun _ => ?_) (fun h => by cases h)
  refine run_seq (x := F6B.c7) (y := F6B.c8) (by kernel_rfl) ?_
  refine run_plain (id := 2) (ops := F6B.o2) [(0, false), (1, true)] (by kernel_rfl) (by kernel_rfl) ?_
  refine cS (by kernel_rfl : opAt F6B.o2 0 = some (some 15, .call { callee := .value (.func 8), args := #[], argTypes := #[] }, none)) rfl rfl (ent Try.call8 rfl) (awake_ok hF) ?_
  rintro vw3 w3 ⟨rfl, hs⟩
  refine ⟨trivial, ?_⟩
  replace hF := hF.st hs
  replace hT := hT.trans hs (by simp)
  refine yS (by kernel_rfl : opAt F6B.o2 1 = some (some 2, .assign (.tmp 15), none)) rfl rfl (fun w' hS => val_assign rfl) ?_
  refine Sch.nil ?_
  refine run_ret1 (by kernel_rfl) Try.func6 Try.results6 rfl ?_
  exact ⟨rfl, hT.out1 (by decide)⟩
end Go.Proofs.Ythdkcbakiiokiaa
