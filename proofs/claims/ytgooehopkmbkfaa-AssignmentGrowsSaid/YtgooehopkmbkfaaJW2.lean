/- Steps through functions of the program. -/
import Derived.Test.YtgooehopkmbkfaaJV3
import Derived.Test.YtgooehopkmbkfaaL2
set_option linter.unusedVariables false
set_option linter.unusedSimpArgs false
set_option maxRecDepth 100000
set_option maxHeartbeats 4000000
namespace Go.Proofs.Ytgooehopkmbkfaa
open Go.K Go.K.Rep

namespace F6
noncomputable def c0 : Code := bodyOf Try.f6
noncomputable def c1 : Code := cl c0
noncomputable def o0 : Array Oper := rops c1
noncomputable def c2 : Code := cr c0
noncomputable def c3 : Code := cl c2
noncomputable def c4 : Code := cl c3
noncomputable def o1 : Array Oper := rops c4
noncomputable def c5 : Code := cr c3
noncomputable def c6 : Code := cl c5
noncomputable def c7 : Code := cl c6
noncomputable def o2 : Array Oper := rops c7
noncomputable def c8 : Code := cr c6
noncomputable def c9 : Code := cr c5
noncomputable def c10 : Code := cr c2
noncomputable def c11 : Code := cl c10
noncomputable def o3 : Array Oper := rops c11
noncomputable def c12 : Code := cr c10
noncomputable def c13 : Code := cl c12
noncomputable def o4 : Array Oper := rops c13
noncomputable def c14 : Code := cr c12
noncomputable def c15 : Code := cl c14
noncomputable def o5 : Array Oper := rops c15
noncomputable def c16 : Code := cr c14
noncomputable def c17 : Code := cl c16
noncomputable def c18 : Code := cl c17
noncomputable def o6 : Array Oper := rops c18
noncomputable def c19 : Code := cr c17
noncomputable def c20 : Code := cl c19
noncomputable def c21 : Code := cl c20
noncomputable def o7 : Array Oper := rops c21
noncomputable def c22 : Code := cr c20
noncomputable def c23 : Code := cr c19
noncomputable def c24 : Code := cr c16
noncomputable def c25 : Code := cl c24
noncomputable def o8 : Array Oper := rops c25
noncomputable def c26 : Code := cr c24
noncomputable def c27 : Code := cl c26
noncomputable def o9 : Array Oper := rops c27
noncomputable def c28 : Code := cr c26
noncomputable def c29 : Code := cl c28
noncomputable def o10 : Array Oper := rops c29
noncomputable def c30 : Code := cr c28
noncomputable def c31 : Code := cl c30
noncomputable def o11 : Array Oper := rops c31
noncomputable def c32 : Code := cr c30
noncomputable def c33 : Code := cl c32
noncomputable def o12 : Array Oper := rops c33
noncomputable def c34 : Code := cr c32
noncomputable def c35 : Code := cl c34
noncomputable def o13 : Array Oper := rops c35
noncomputable def c36 : Code := cr c34
noncomputable def c37 : Code := cl c36
noncomputable def o14 : Array Oper := rops c37
noncomputable def c38 : Code := cr c36
noncomputable def c39 : Code := cl c38
noncomputable def o15 : Array Oper := rops c39
noncomputable def c40 : Code := cr c38
end F6
/-- An edge more, or a greater weight, does not lessen the greatest total, and raises it by at most as much. -/
theorem assignmentGrows_ok {w₀ : World} {C : Nat → Nat} {l : List Int} {vl : Value} {mm : Nat} (hm8 : mm < 256) (hF : Lim w₀ C) (hl : RV w₀ (Mc C) l vl) : Calls Try.prog 6 #[vl, .int .u8 (mm : Int)] w₀ (Ret fun v w' => v = .bool true ∧ Stp [] w₀ C w' C) := by
  have hF0 := hF
  have hT := Stp.refl [2, 3, 4, 5, 6, 7, 8, 9] w₀ (col1 C)
  replace hF := hF.col1
  replace hl : RV w₀ (Mc (col1 C)) l vl := by rw [Mc_col1]; exact hl
  refine calls_start (c := F6.c0) (N := 133) [vl, .int .u8 (mm : Int)] Try.func6 (by kernel_rfl) (by kernel_rfl) (by kernel_rfl) ?_
  show Run _ _ _ _ [(0, vl), (1, .int .u8 (mm : Int))] _ _
  refine run_seq (x := F6.c1) (y := F6.c2) (by kernel_rfl) ?_
  refine run_plain (id := 0) (ops := F6.o0) [(0, true)] (by kernel_rfl) (by kernel_rfl) ?_
  refine yS (by kernel_rfl : opAt F6.o0 0 = some (some 4, .assign (.const (.bool false)), none)) rfl rfl (fun w' hS => val_assign rfl) ?_
  refine Sch.nil ?_
  refine run_seq (x := F6.c3) (y := F6.c10) (by kernel_rfl) ?_
  refine run_seq (x := F6.c4) (y := F6.c5) (by kernel_rfl) ?_
  refine run_plain (id := 1) (ops := F6.o1) [(0, false), (1, true), (2, true), (3, true), (4, false), (5, true), (6, true)] (by kernel_rfl) (by kernel_rfl) ?_
  refine cS (by kernel_rfl : opAt F6.o1 0 = some (some 21, .call { callee := .value (.func 10), args := #[], argTypes := #[] }, none)) rfl rfl (ent Try.call10 rfl) (awake_ok hF) ?_
  rintro vw1 w1 ⟨rfl, hs⟩
  refine ⟨trivial, ?_⟩
  replace hF := hF.st hs
  replace hT := hT.trans hs (by simp)
  replace hl := hl.st hs (by first | decide | (simp <;> omega))
  refine yS (by kernel_rfl : opAt F6.o1 1 = some (some 22, .unOp .not 4 (.tmp 21), none)) rfl rfl (fun w' hS => val_not rfl) ?_
  refine yS (by kernel_rfl : opAt F6.o1 2 = some (some 23, .move (.tmp 22), none)) rfl rfl (fun w' hS => val_move rfl) ?_
  refine yS (by kernel_rfl : opAt F6.o1 3 = some (some 24, .move (.tmp 0), (some (2, false)))) rfl rfl (fun w' hS => val_move rfl) ?_
  refine cS (by kernel_rfl : opAt F6.o1 4 = some (some 25, .call { callee := .value (.func 11), args := #[(.tmp 24)], argTypes := #[22] }, (some (2, false)))) rfl rfl (ent Try.call11 rfl) (few_any hl) ?_
  rintro vw2 w2 ⟨rfl, rfl⟩
  refine ⟨trivial, ?_⟩
  refine yS (by kernel_rfl : opAt F6.o1 5 = some (some 26, .unOp .not 4 (.tmp 25), (some (2, false)))) rfl rfl (fun w' hS => val_notd rfl) ?_
  refine yS (by kernel_rfl : opAt F6.o1 6 = some (some 27, .pick (.tmp 23) (.const (.bool true)) (.tmp 26), none)) rfl rfl (fun w' hS => val_pick_f rfl rfl) ?_
  refine Sch.nil ?_
  refine run_if (x := F6.c6) (y := F6.c9) (o := .tmp 27) (by kernel_rfl) rfl (fun h27 => ?_) (fun h27 => ?_)
  · skip
    refine run_seq (x := F6.c7) (y := F6.c8) (by kernel_rfl) ?_
    refine run_plain (id := 2) (ops := F6.o2) [(0, false), (1, true)] (by kernel_rfl) (by kernel_rfl) ?_
    refine cS (by kernel_rfl : opAt F6.o2 0 = some (some 28, .call { callee := .value (.func 10), args := #[], argTypes := #[] }, none)) rfl rfl (ent Try.call10 rfl) (awake_ok hF) ?_
    rintro vw3 w3 ⟨rfl, hs⟩
    refine ⟨trivial, ?_⟩
    replace hF := hF.st hs
    replace hT := hT.trans hs (by simp)
    replace hl := hl.st hs (by first | decide | (simp <;> omega))
    refine yS (by kernel_rfl : opAt F6.o2 1 = some (some 4, .assign (.tmp 28), none)) rfl rfl (fun w' hS => val_assign rfl) ?_
    refine Sch.nil ?_
    refine run_ret1 (by kernel_rfl) Try.func6 Try.results6 rfl ?_
    exact ⟨rfl, hT.out1 (by decide)⟩
  · skip
    refine run_skip (by kernel_rfl) ?_
    refine run_seq (x := F6.c11) (y := F6.c12) (by kernel_rfl) ?_
    refine run_plain (id := 3) (ops := F6.o3) [(0, true), (1, false), (2, true)] (by kernel_rfl) (by kernel_rfl) ?_
    refine yS (by kernel_rfl : opAt F6.o3 0 = some (some 29, .move (.tmp 0), none)) rfl rfl (fun w' hS => val_move rfl) ?_
    refine cS (by kernel_rfl : opAt F6.o3 1 = some (some 30, .call { callee := .value (.func 12), args := #[(.tmp 29)], argTypes := #[22] }, none)) rfl rfl (ent Try.call12 rfl) (new_any hF hl) ?_
    rintro vw4 w4 ⟨Cd, bd, rfl, hs, hF, hd⟩
    refine ⟨trivial, ?_⟩
    replace hT := hT.trans hs (by simp)
    replace hl := hl.st hs (by first | decide | (simp <;> omega))
    refine yS (by kernel_rfl : opAt F6.o3 2 = some (some 5, .assign (.tmp 30), none)) rfl rfl (fun w' hS => val_assign rfl) ?_
    refine Sch.nil ?_
    refine run_seq (x := F6.c13) (y := F6.c14) (by kernel_rfl) ?_
    refine run_plain (id := 4) (ops := F6.o4) [(0, true), (1, false), (2, true), (3, true), (4, false), (5, true), (6, true), (7, true)] (by kernel_rfl) (by kernel_rfl) ?_
    refine yS (by kernel_rfl : opAt F6.o4 0 = some (some 31, .move (.tmp 5), none)) rfl rfl (fun w' hS => val_move rfl) ?_
    refine cS (by kernel_rfl : opAt F6.o4 1 = some (some 32, .call { callee := .value (.func 13), args := #[(.tmp 31), (.const (.int .i64 5))], argTypes := #[27, 3] }, none)) rfl rfl (ent Try.call13 rfl) (next_any (n := 5) hF (by decide) hd (by omega) (by omega)) ?_
    rintro vw5 w5 ⟨p, rfl, hp, hs, hd⟩
    refine ⟨trivial, ?_⟩
    replace hF := hF.st hs
    replace hT := hT.trans hs (by simp)
    replace hl := hl.st hs (by first | decide | (simp <;> omega))
    refine yS (by kernel_rfl : opAt F6.o4 2 = some (some 33, .binOp .add 3 (.const (.int .i64 1)) (.tmp 32) 3, none)) rfl rfl (fun w' hS => val_addi rfl rfl (by omega) (by omega)) ?_
    obtain ⟨n, hnd⟩ : ∃ x : Nat, x = p + 1 := ⟨_, rfl⟩
    rw [show (1 : Int) + (p : Int) = ((n : Nat) : Int) from by omega]
    refine yS (by kernel_rfl : opAt F6.o4 3 = some (some 34, .move (.tmp 5), none)) rfl rfl (fun w' hS => val_move rfl) ?_
    refine cS (by kernel_rfl : opAt F6.o4 4 = some (some 35, .call { callee := .value (.func 13), args := #[(.tmp 34), (.const (.int .i64 5))], argTypes := #[27, 3] }, none)) rfl rfl (ent Try.call13 rfl) (next_any (n := 5) hF (by decide) hd (by omega) (by omega)) ?_
    rintro vw6 w6 ⟨q, rfl, hq, hs, hd⟩
    refine ⟨trivial, ?_⟩
    replace hF := hF.st hs
    replace hT := hT.trans hs (by simp)
    replace hl := hl.st hs (by first | decide | (simp <;> omega))
    refine yS (by kernel_rfl : opAt F6.o4 5 = some (some 36, .binOp .add 3 (.const (.int .i64 1)) (.tmp 35) 3, none)) rfl rfl (fun w' hS => val_addi rfl rfl (by omega) (by omega)) ?_
    obtain ⟨m, hmd⟩ : ∃ x : Nat, x = q + 1 := ⟨_, rfl⟩
    rw [show (1 : Int) + (q : Int) = ((m : Nat) : Int) from by omega]
    refine yS (by kernel_rfl : opAt F6.o4 6 = some (some 6, .assign (.tmp 33), none)) rfl rfl (fun w' hS => val_assign rfl) ?_
    refine yS (by kernel_rfl : opAt F6.o4 7 = some (some 7, .assign (.tmp 36), none)) rfl rfl (fun w' hS => val_assign rfl) ?_
    refine Sch.nil ?_
    refine run_seq (x := F6.c15) (y := F6.c16) (by kernel_rfl) ?_
    refine run_plain (id := 5) (ops := F6.o5) [(0, true), (1, true), (2, true), (3, false), (4, true)] (by kernel_rfl) (by kernel_rfl) ?_
    refine yS (by kernel_rfl : opAt F6.o5 0 = some (some 37, .move (.tmp 5), none)) rfl rfl (fun w' hS => val_move rfl) ?_
    refine yS (by kernel_rfl : opAt F6.o5 1 = some (some 38, .move (.tmp 6), none)) rfl rfl (fun w' hS => val_move rfl) ?_
    refine yS (by kernel_rfl : opAt F6.o5 2 = some (some 39, .move (.tmp 7), none)) rfl rfl (fun w' hS => val_move rfl) ?_
    refine cS (by kernel_rfl : opAt F6.o5 3 = some (some 40, .call { callee := .value (.func 14), args := #[(.tmp 37), (.tmp 38), (.tmp 39), (.const (.int .i64 2))], argTypes := #[27, 3, 3, 3] }, none)) rfl rfl (ent Try.call14 rfl) (edges_any (n := n) (m := m) (one := 2) hF (by decide) hd (by omega) (by omega) (by decide) (by decide)) ?_
    rintro v_el w7 ⟨el, hE, ⟨hs, he, hd⟩, _⟩
    have hEV := hE.ve (by omega) (by omega)
    have hEc := hEV.check
    refine ⟨trivial, ?_⟩
    replace hF := hF.st hs
    replace hT := hT.trans hs (by simp)
    replace hl := hl.st hs (by first | decide | (simp <;> omega))
    refine yS (by kernel_rfl : opAt F6.o5 4 = some (some 8, .assign (.tmp 40), none)) rfl rfl (fun w' hS => val_assign rfl) ?_
    refine Sch.nil ?_
    refine run_seq (x := F6.c17) (y := F6.c24) (by kernel_rfl) ?_
    refine run_seq (x := F6.c18) (y := F6.c19) (by kernel_rfl) ?_
    refine run_plain (id := 6) (ops := F6.o6) [(0, true), (1, true), (2, true)] (by kernel_rfl) (by kernel_rfl) ?_
    refine yS (by kernel_rfl : opAt F6.o6 0 = some (some 41, .move (.tmp 8), none)) rfl rfl (fun w' hS => val_move rfl) ?_
    refine yS (by kernel_rfl : opAt F6.o6 1 = some (some 42, .call { callee := .builtin .len, args := #[(.tmp 41)], argTypes := #[23] }, none)) rfl rfl (fun w' hS => he.lenV rfl Try.underlying23 w' ) ?_
    refine yS (by kernel_rfl : opAt F6.o6 2 = some (some 43, .binOp .eql 3 (.tmp 42) (.const (.int .i64 0)) 3, none)) rfl rfl (fun w' hS => val_eql rfl rfl) ?_
    refine Sch.nil ?_
    refine run_if (x := F6.c20) (y := F6.c23) (o := .tmp 43) (by kernel_rfl) rfl (fun h43 => ?_) (fun h43 => ?_)
    · skip
      refine run_seq (x := F6.c21) (y := F6.c22) (by kernel_rfl) ?_
      refine run_plain (id := 7) (ops := F6.o7) [(0, true)] (by kernel_rfl) (by kernel_rfl) ?_
      refine yS (by kernel_rfl : opAt F6.o7 0 = some (some 4, .assign (.const (.bool true)), none)) rfl rfl (fun w' hS => val_assign rfl) ?_
      refine Sch.nil ?_
      refine run_ret1 (by kernel_rfl) Try.func6 Try.results6 rfl ?_
      exact ⟨rfl, hT.out1 (by decide)⟩
    · skip
      have hel0 : 0 < el.length := by omega
      have hel := hE.len
      refine run_skip (by kernel_rfl) ?_
      refine run_seq (x := F6.c25) (y := F6.c26) (by kernel_rfl) ?_
      refine run_plain (id := 8) (ops := F6.o8) [(0, true), (1, true), (2, true), (3, false), (4, true), (5, true), (6, true), (7, true), (8, true), (9, true), (10, true)] (by kernel_rfl) (by kernel_rfl) ?_
      refine yS (by kernel_rfl : opAt F6.o8 0 = some (some 45, .move (.tmp 6), none)) rfl rfl (fun w' hS => val_move rfl) ?_
      refine yS (by kernel_rfl : opAt F6.o8 1 = some (some 46, .move (.tmp 7), none)) rfl rfl (fun w' hS => val_move rfl) ?_
      refine yS (by kernel_rfl : opAt F6.o8 2 = some (some 47, .move (.tmp 8), none)) rfl rfl (fun w' hS => val_move rfl) ?_
      refine cS (by kernel_rfl : opAt F6.o8 3 = some (some 48, .call { callee := .value (.func 19), args := #[(.tmp 45), (.tmp 46), (.tmp 47)], argTypes := #[3, 3, 23] }, none)) rfl rfl (ent Try.call19 rfl) (solve_ok (n := n) (m := m) (l := el) hF he) ?_
      rintro vw8 w8 ⟨u1, rfl, hs, hc1⟩
      refine ⟨trivial, ?_⟩
      replace hF := hF.st hs
      replace hT := hT.trans hs (by simp)
      replace hl := hl.st hs (by first | decide | (simp <;> omega))
      replace hd := hd.st hs (by first | decide | (simp <;> omega)) (by first | decide | (simp <;> omega))
      replace he := he.st hs (by first | decide | (simp <;> omega))
      rw [hEc]
      refine yS (by kernel_rfl : opAt F6.o8 4 = some (some 44, .move (.tmp 48), none)) rfl rfl (fun w' hS => val_move rfl) ?_
      refine yS (by kernel_rfl : opAt F6.o8 5 = some (some 49, .extract (.tmp 44) 0, none)) rfl rfl (fun w' hS => val_extract rfl rfl) ?_
      refine yS (by kernel_rfl : opAt F6.o8 6 = some (some 50, .extract (.tmp 44) 1, none)) rfl rfl (fun w' hS => val_extract rfl rfl) ?_
      refine yS (by kernel_rfl : opAt F6.o8 7 = some (some 51, .extract (.tmp 44) 2, none)) rfl rfl (fun w' hS => val_extract rfl rfl) ?_
      refine yS (by kernel_rfl : opAt F6.o8 8 = some (some 9, .assign (.tmp 49), none)) rfl rfl (fun w' hS => val_assign rfl) ?_
      refine yS (by kernel_rfl : opAt F6.o8 9 = some (some 10, .assign (.tmp 50), none)) rfl rfl (fun w' hS => val_assign rfl) ?_
      refine yS (by kernel_rfl : opAt F6.o8 10 = some (some 11, .assign (.tmp 51), none)) rfl rfl (fun w' hS => val_assign rfl) ?_
      refine Sch.nil ?_
      refine run_seq (x := F6.c27) (y := F6.c28) (by kernel_rfl) ?_
      refine run_plain (id := 9) (ops := F6.o9) [(0, true), (1, true), (2, true), (3, false), (4, true)] (by kernel_rfl) (by kernel_rfl) ?_
      refine yS (by kernel_rfl : opAt F6.o9 0 = some (some 52, .move (.tmp 5), none)) rfl rfl (fun w' hS => val_move rfl) ?_
      refine yS (by kernel_rfl : opAt F6.o9 1 = some (some 53, .move (.tmp 8), none)) rfl rfl (fun w' hS => val_move rfl) ?_
      refine yS (by kernel_rfl : opAt F6.o9 2 = some (some 54, .call { callee := .builtin .len, args := #[(.tmp 53)], argTypes := #[23] }, none)) rfl rfl (fun w' hS => he.lenV rfl Try.underlying23 w' ) ?_
      refine cS (by kernel_rfl : opAt F6.o9 3 = some (some 55, .call { callee := .value (.func 13), args := #[(.tmp 52), (.tmp 54)], argTypes := #[27, 3] }, none)) rfl rfl (ent Try.call13 rfl) (next_any (n := (el.length : Int)) hF (by decide) hd (by omega) (by omega)) ?_
      rintro vw9 w9 ⟨k, rfl, hk, hs, hd⟩
      refine ⟨trivial, ?_⟩
      replace hF := hF.st hs
      replace hT := hT.trans hs (by simp)
      replace hl := hl.st hs (by first | decide | (simp <;> omega))
      replace he := he.st hs (by first | decide | (simp <;> omega))
      replace hc1 := hc1.st hs (by first | decide | (simp <;> omega))
      refine yS (by kernel_rfl : opAt F6.o9 4 = some (some 12, .assign (.tmp 55), none)) rfl rfl (fun w' hS => val_assign rfl) ?_
      refine Sch.nil ?_
      have hkl : k < el.length := by omega
      have hkw := (hE.ok _ (List.getElem_mem hkl)).2
      refine run_seq (x := F6.c29) (y := F6.c30) (by kernel_rfl) ?_
      refine run_plain (id := 10) (ops := F6.o10) [(0, true), (1, false), (2, true)] (by kernel_rfl) (by kernel_rfl) ?_
      refine yS (by kernel_rfl : opAt F6.o10 0 = some (some 56, .move (.tmp 8), none)) rfl rfl (fun w' hS => val_move rfl) ?_
      refine aS (by kernel_rfl : opAt F6.o10 1 = some (some 57, .call { callee := .builtin .append, args := #[(.const (.slice none 0 0)), (.tmp 56)], argTypes := #[23, 23] }, none)) rfl rfl (a_append (e := 46) (bytes := 24) hF (by decide) rfl rfl (by kernel_rfl) (by decide) (OwnL.nil (α := K.Edge) (j := 5)) he (by simp only [List.length_append, List.length_cons, List.length_nil, List.length_take, List.length_drop, List.length_map]; omega) (by simp only [List.length_append, List.length_cons, List.length_nil, List.length_take, List.length_drop, List.length_map]; omega)) ?_
      rintro v57 w10 ⟨Cw10, hs, hn, hF⟩
      refine ⟨trivial, ?_⟩
      replace hT := hT.trans hs (by simp)
      replace hl := hl.st hs (by first | decide | (simp <;> omega))
      replace hd := hd.st hs (by first | decide | (simp <;> omega)) (by first | decide | (simp <;> omega))
      replace he := he.st hs (by first | decide | (simp <;> omega))
      replace hc1 := hc1.st hs (by first | decide | (simp <;> omega))
      refine yS (by kernel_rfl : opAt F6.o10 2 = some (some 13, .assign (.tmp 57), none)) rfl rfl (fun w' hS => val_assign rfl) ?_
      refine Sch.nil ?_
      simp only [List.nil_append] at hn
      clear hd
      refine run_seq (x := F6.c31) (y := F6.c32) (by kernel_rfl) ?_
      refine run_plain (id := 11) (ops := F6.o11) [(0, true), (1, true), (2, true), (3, true), (4, false), (5, true), (6, true), (7, true), (8, true), (9, true), (10, false)] (by kernel_rfl) (by kernel_rfl) ?_
      refine yS (by kernel_rfl : opAt F6.o11 0 = some (some 58, .move (.tmp 13), none)) rfl rfl (fun w' hS => val_move rfl) ?_
      refine yS (by kernel_rfl : opAt F6.o11 1 = some (some 59, .move (.tmp 12), none)) rfl rfl (fun w' hS => val_move rfl) ?_
      refine oI (e' := 46) (by kernel_rfl : opAt F6.o11 2 = some (some 60, .indexAddr 23 (.tmp 58) (.tmp 59), none)) rfl rfl hn rfl (by kernel_rfl) rfl (by omega) (by omega) ?_
      intro g60 hg60
      try simp only [Int.toNat_natCast]
      refine yS (by kernel_rfl : opAt F6.o11 3 = some (some 61, .fieldAddr 46 (.tmp 60) 2, none)) rfl rfl (fun w' hS => val_fieldAddr (off := 2) (by kernel_rfl) rfl) ?_
      refine nS (by kernel_rfl : opAt F6.o11 4 = some (some 62, .load 3 (.tmp 61), none)) rfl rfl trivial (OwnL.cell (off := 2) (u := .int .i64 (el[k]'hkl).w) hn hg60 (by omega) (by decide) (by kernel_rfl) (fun vs hv => by rw [rep_edge.1 hv]; rfl) rfl _ rfl) ?_
      refine yS (by kernel_rfl : opAt F6.o11 5 = some (some 63, .move (.tmp 1), none)) rfl rfl (fun w' hS => val_move rfl) ?_
      refine yS (by kernel_rfl : opAt F6.o11 6 = some (some 64, .convert 5 3 (.tmp 63), none)) rfl rfl (fun w' hS => val_convE (r := (mm : Int)) rfl ⟨_, Try.underlying5⟩ Try.underlying3 (wrap_i64 (by omega) (by omega))) ?_
      refine yS (by kernel_rfl : opAt F6.o11 7 = some (some 65, .binOp .add 3 (.tmp 62) (.tmp 64) 3, none)) rfl rfl (fun w' hS => val_addi rfl rfl (by omega) (by omega)) ?_
      refine oI (e' := 46) (by kernel_rfl : opAt F6.o11 8 = some (some 66, .indexAddr 23 (.tmp 58) (.tmp 59), none)) rfl rfl hn rfl (by kernel_rfl) rfl (by omega) (by omega) ?_
      intro g66 hg66
      try simp only [Int.toNat_natCast]
      refine yS (by kernel_rfl : opAt F6.o11 9 = some (some 67, .fieldAddr 46 (.tmp 66) 2, none)) rfl rfl (fun w' hS => val_fieldAddr (off := 2) (by kernel_rfl) rfl) ?_
      refine aN (by kernel_rfl : opAt F6.o11 10 = some (none, .store 3 (.tmp 67) (.tmp 65), none)) rfl (a_storeF (off := 2) (k := 1) (us := [.int .i64 ((el[k]'hkl).w + (mm : Int))]) (x0 := (⟨(el[k]'hkl).a, (el[k]'hkl).b, (el[k]'hkl).w + (mm : Int)⟩ : K.Edge)) hn hg66 (by omega) rfl rfl (by kernel_rfl) rfl rfl (by intro u hu; rw [List.mem_singleton.1 hu]; rfl) (by decide) (fun vs hv => by rw [rep_edge.1 hv]; exact rep_edge.2 rfl)) ?_
      rintro _ w11 ⟨rfl, hs, hn⟩
      refine ⟨trivial, ?_⟩
      replace hF := hF.st hs
      replace hT := hT.trans hs (by simp)
      replace hl := hl.st hs (by first | decide | (simp <;> omega))
      replace he := he.st hs (by first | decide | (simp <;> omega))
      replace hc1 := hc1.st hs (by first | decide | (simp <;> omega))
      obtain ⟨hv, hhv⟩ : ∃ l, l = el.set k (⟨(el[k]'hkl).a, (el[k]'hkl).b, (el[k]'hkl).w + (mm : Int)⟩ : K.Edge) := ⟨_, rfl⟩
      rw [← hhv] at hn
      have hvl : hv.length = el.length := by rw [hhv, List.length_set]
      obtain ⟨hcv, hv1, hv2⟩ := heavy_law hEV hkl (d := (mm : Int)) (by omega) (by omega) hhv
      have hb1 := solT_bnd hEc
      have hb2 := solT_bnd hcv
      refine Sch.nil ?_
      replace hF := hF.frz 5
      replace hT := hT.frz (n := 5) (fun b => Nat.lt_of_lt_of_le (col1_lt2 C b) (by decide))
      replace hl := hl.frz 5
      replace he := he.frz 5
      replace hc1 := hc1.frz 5
      have hn_ := hn.frz (n := 5) (by decide) (by omega)
      replace hn := hn_
      clear hn_
      refine run_seq (x := F6.c33) (y := F6.c34) (by kernel_rfl) ?_
      refine run_plain (id := 12) (ops := F6.o12) [(0, true), (1, true), (2, true), (3, false), (4, true), (5, true), (6, true), (7, true), (8, true), (9, true), (10, true)] (by kernel_rfl) (by kernel_rfl) ?_
      refine yS (by kernel_rfl : opAt F6.o12 0 = some (some 69, .move (.tmp 6), none)) rfl rfl (fun w' hS => val_move rfl) ?_
      refine yS (by kernel_rfl : opAt F6.o12 1 = some (some 70, .move (.tmp 7), none)) rfl rfl (fun w' hS => val_move rfl) ?_
      refine yS (by kernel_rfl : opAt F6.o12 2 = some (some 71, .move (.tmp 13), none)) rfl rfl (fun w' hS => val_move rfl) ?_
      refine cS (by kernel_rfl : opAt F6.o12 3 = some (some 72, .call { callee := .value (.func 19), args := #[(.tmp 69), (.tmp 70), (.tmp 71)], argTypes := #[3, 3, 23] }, none)) rfl rfl (ent Try.call19 rfl) (solve_ok (n := n) (m := m) (l := hv) hF hn) ?_
      rintro vw12 w12 ⟨u2, rfl, hs, hc2⟩
      refine ⟨trivial, ?_⟩
      replace hF := hF.st hs
      replace hT := hT.trans hs (by simp)
      replace hl := hl.st hs (by first | decide | (simp <;> omega))
      replace he := he.st hs (by first | decide | (simp <;> omega))
      replace hc1 := hc1.st hs (by first | decide | (simp <;> omega))
      replace hn := hn.st hs (by first | decide | (simp <;> omega))
      rw [hcv]
      refine yS (by kernel_rfl : opAt F6.o12 4 = some (some 68, .move (.tmp 72), none)) rfl rfl (fun w' hS => val_move rfl) ?_
      refine yS (by kernel_rfl : opAt F6.o12 5 = some (some 73, .extract (.tmp 68) 0, none)) rfl rfl (fun w' hS => val_extract rfl rfl) ?_
      refine yS (by kernel_rfl : opAt F6.o12 6 = some (some 74, .extract (.tmp 68) 1, none)) rfl rfl (fun w' hS => val_extract rfl rfl) ?_
      refine yS (by kernel_rfl : opAt F6.o12 7 = some (some 75, .extract (.tmp 68) 2, none)) rfl rfl (fun w' hS => val_extract rfl rfl) ?_
      refine yS (by kernel_rfl : opAt F6.o12 8 = some (some 14, .assign (.tmp 73), none)) rfl rfl (fun w' hS => val_assign rfl) ?_
      refine yS (by kernel_rfl : opAt F6.o12 9 = some (some 15, .assign (.tmp 74), none)) rfl rfl (fun w' hS => val_assign rfl) ?_
      refine yS (by kernel_rfl : opAt F6.o12 10 = some (some 16, .assign (.tmp 75), none)) rfl rfl (fun w' hS => val_assign rfl) ?_
      refine Sch.nil ?_
      refine run_seq (x := F6.c35) (y := F6.c36) (by kernel_rfl) ?_
      refine run_draw (id := 13) (ops := F6.o13) [5] (K.frz 5 Cw10) [(0, true), (1, true), (2, true), (4, true), (5, true), (6, true), (7, true), (3, false), (8, false), (9, true)] Try_mixed (by kernel_rfl) (by kernel_rfl) (by kernel_rfl) ?_
      intro w13 hs
      replace hF := hF.st hs
      replace hT := hT.trans hs (by simp)
      replace hl := hl.st hs (by first | decide | (simp <;> omega))
      replace he := he.st hs (by first | decide | (simp <;> omega))
      replace hc1 := hc1.st hs (by first | decide | (simp <;> omega))
      replace hn := hn.st hs (by first | decide | (simp <;> omega))
      replace hc2 := hc2.st hs (by first | decide | (simp <;> omega))
      have hR := Stp.refl [5] w13 (K.frz 5 Cw10)
      refine yS (by kernel_rfl : opAt F6.o13 0 = some (some 76, .move (.tmp 8), none)) rfl rfl (fun w' hS => val_move rfl) ?_
      refine yS (by kernel_rfl : opAt F6.o13 1 = some (some 77, .move (.tmp 12), none)) rfl rfl (fun w' hS => val_move rfl) ?_
      refine sTR (e' := 46) (by kernel_rfl : opAt F6.o13 2 = some (some 78, .slice 23 (.tmp 76) none (some (.tmp 77)) none, none)) rfl rfl he rfl (by kernel_rfl) rfl (by omega) (by omega) ?_
      intro v78 h78
      try simp only [Int.toNat_natCast] at h78
      refine yS (by kernel_rfl : opAt F6.o13 4 = some (some 80, .move (.tmp 8), none)) rfl rfl (fun w' hS => val_move rfl) ?_
      refine yS (by kernel_rfl : opAt F6.o13 5 = some (some 81, .move (.tmp 12), none)) rfl rfl (fun w' hS => val_move rfl) ?_
      refine yS (by kernel_rfl : opAt F6.o13 6 = some (some 82, .binOp .add 3 (.tmp 81) (.const (.int .i64 1)) 3, none)) rfl rfl (fun w' hS => val_addi rfl rfl (by omega) (by omega)) ?_
      refine sFR (e' := 46) (by kernel_rfl : opAt F6.o13 7 = some (some 83, .slice 23 (.tmp 80) (some (.tmp 82)) none none, none)) rfl rfl he rfl (by kernel_rfl) rfl (by omega) (by omega) ?_
      intro v83 h83
      try simp only [Int.toNat_natCast] at h83
      rw [show ((k : Int) + 1).toNat = k + 1 from by omega] at h83
      refine aS (by kernel_rfl : opAt F6.o13 3 = some (some 79, .call { callee := .builtin .append, args := #[(.const (.slice none 0 0)), (.tmp 78)], argTypes := #[23, 23] }, none)) rfl rfl (a_append (e := 46) (bytes := 24) hF (by decide) rfl rfl (by kernel_rfl) (by decide) (OwnL.nil (α := K.Edge) (j := 5)) h78 (by simp only [List.length_append, List.length_cons, List.length_nil, List.length_take, List.length_drop, List.length_map]; omega) (by simp only [List.length_append, List.length_cons, List.length_nil, List.length_take, List.length_drop, List.length_map]; omega)) ?_
      rintro v79 w14 ⟨Cw14, hs, hq, hF⟩
      refine ⟨(hR.trans hs (by simp)).ext, ?_⟩
      replace hT := hT.trans hs (by simp)
      replace hl := hl.st hs (by first | decide | (simp <;> omega))
      replace he := he.st hs (by first | decide | (simp <;> omega))
      replace hc1 := hc1.st hs (by first | decide | (simp <;> omega))
      replace hn := hn.st hs (by first | decide | (simp <;> omega))
      replace hc2 := hc2.st hs (by first | decide | (simp <;> omega))
      replace hR := hR.trans hs (by simp)
      replace h78 := h78.st hs (by first | decide | (simp <;> omega))
      replace h83 := h83.st hs (by first | decide | (simp <;> omega))
      refine aS (by kernel_rfl : opAt F6.o13 8 = some (some 84, .call { callee := .builtin .append, args := #[(.tmp 79), (.tmp 83)], argTypes := #[23, 23] }, none)) rfl rfl (a_append (e := 46) (bytes := 24) hF (by decide) rfl rfl (by kernel_rfl) (by decide) hq h83 (by simp only [List.length_append, List.length_cons, List.length_nil, List.length_take, List.length_drop, List.length_map]; omega) (by simp only [List.length_append, List.length_cons, List.length_nil, List.length_take, List.length_drop, List.length_map]; omega)) ?_
      rintro v84 w15 ⟨Cw15, hs, hq, hF⟩
      refine ⟨(hR.trans hs (by simp)).ext, ?_⟩
      replace hT := hT.trans hs (by simp)
      replace hl := hl.st hs (by first | decide | (simp <;> omega))
      replace he := he.st hs (by first | decide | (simp <;> omega))
      replace hc1 := hc1.st hs (by first | decide | (simp <;> omega))
      replace hn := hn.st hs (by first | decide | (simp <;> omega))
      replace hc2 := hc2.st hs (by first | decide | (simp <;> omega))
      replace hR := hR.trans hs (by simp)
      replace h78 := h78.st hs (by first | decide | (simp <;> omega))
      replace h83 := h83.st hs (by first | decide | (simp <;> omega))
      refine yS (by kernel_rfl : opAt F6.o13 9 = some (some 17, .assign (.tmp 84), none)) rfl rfl (fun w' hS => val_assign rfl) ?_
      refine Sch.nil ?_
      simp only [List.nil_append] at hq
      obtain ⟨fw, hfe⟩ : ∃ l, l = el.take k ++ el.drop (k + 1) := ⟨_, rfl⟩
      rw [← hfe] at hq
      rw [← List.eraseIdx_eq_take_drop_succ] at hfe
      have hfl : fw.length ≤ el.length := by rw [hfe]; exact (List.eraseIdx_sublist el k).length_le
      obtain ⟨hcw, hw1, hw2⟩ := erase_law hEV hkl hfe
      have hb3 := solT_bnd hcw
      replace hF := hF.frz 5
      replace hT := hT.frz (n := 5) (fun b => Nat.lt_of_lt_of_le (col1_lt2 C b) (by decide))
      replace hl := hl.frz 5
      replace he := he.frz 5
      replace hc1 := hc1.frz 5
      replace hn := hn.frz 5
      replace hc2 := hc2.frz 5
      clear h78
      clear h83
      have hq_ := hq.frz (n := 5) (by decide) (by omega)
      replace hq := hq_
      clear hq_
      refine run_seq (x := F6.c37) (y := F6.c38) (by kernel_rfl) ?_
      refine run_plain (id := 14) (ops := F6.o14) [(0, true), (1, true), (2, true), (3, false), (4, true), (5, true), (6, true), (7, true), (8, true), (9, true), (10, true)] (by kernel_rfl) (by kernel_rfl) ?_
      refine yS (by kernel_rfl : opAt F6.o14 0 = some (some 86, .move (.tmp 6), none)) rfl rfl (fun w' hS => val_move rfl) ?_
      refine yS (by kernel_rfl : opAt F6.o14 1 = some (some 87, .move (.tmp 7), none)) rfl rfl (fun w' hS => val_move rfl) ?_
      refine yS (by kernel_rfl : opAt F6.o14 2 = some (some 88, .move (.tmp 17), none)) rfl rfl (fun w' hS => val_move rfl) ?_
      refine cS (by kernel_rfl : opAt F6.o14 3 = some (some 89, .call { callee := .value (.func 19), args := #[(.tmp 86), (.tmp 87), (.tmp 88)], argTypes := #[3, 3, 23] }, none)) rfl rfl (ent Try.call19 rfl) (solve_ok (n := n) (m := m) (l := fw) hF hq) ?_
      rintro vw16 w16 ⟨u3, rfl, hs, hc3⟩
      refine ⟨trivial, ?_⟩
      replace hF := hF.st hs
      replace hT := hT.trans hs (by simp)
      replace hl := hl.st hs (by first | decide | (simp <;> omega))
      replace he := he.st hs (by first | decide | (simp <;> omega))
      replace hc1 := hc1.st hs (by first | decide | (simp <;> omega))
      replace hn := hn.st hs (by first | decide | (simp <;> omega))
      replace hc2 := hc2.st hs (by first | decide | (simp <;> omega))
      replace hq := hq.st hs (by first | decide | (simp <;> omega))
      rw [hcw]
      refine yS (by kernel_rfl : opAt F6.o14 4 = some (some 85, .move (.tmp 89), none)) rfl rfl (fun w' hS => val_move rfl) ?_
      refine yS (by kernel_rfl : opAt F6.o14 5 = some (some 90, .extract (.tmp 85) 0, none)) rfl rfl (fun w' hS => val_extract rfl rfl) ?_
      refine yS (by kernel_rfl : opAt F6.o14 6 = some (some 91, .extract (.tmp 85) 1, none)) rfl rfl (fun w' hS => val_extract rfl rfl) ?_
      refine yS (by kernel_rfl : opAt F6.o14 7 = some (some 92, .extract (.tmp 85) 2, none)) rfl rfl (fun w' hS => val_extract rfl rfl) ?_
      refine yS (by kernel_rfl : opAt F6.o14 8 = some (some 18, .assign (.tmp 90), none)) rfl rfl (fun w' hS => val_assign rfl) ?_
      refine yS (by kernel_rfl : opAt F6.o14 9 = some (some 19, .assign (.tmp 91), none)) rfl rfl (fun w' hS => val_assign rfl) ?_
      refine yS (by kernel_rfl : opAt F6.o14 10 = some (some 20, .assign (.tmp 92), none)) rfl rfl (fun w' hS => val_assign rfl) ?_
      refine Sch.nil ?_
      refine run_seq (x := F6.c39) (y := F6.c40) (by kernel_rfl) ?_
      refine run_plain (id := 15) (ops := F6.o15) [(0, true), (1, true), (2, true), (3, true), (4, true), (5, true), (6, true), (7, true), (8, true), (9, true), (10, true), (11, true), (12, true), (13, true), (14, true), (15, true), (16, true), (17, true), (18, true), (19, true), (20, true), (21, true), (22, true), (23, true), (24, true), (25, true), (26, true), (27, true), (28, true), (29, true), (30, true), (31, true), (32, true), (33, true), (34, true), (35, false), (36, true), (37, true), (38, true), (39, true), (40, true)] (by kernel_rfl) (by kernel_rfl) ?_
      refine yS (by kernel_rfl : opAt F6.o15 0 = some (some 93, .move (.tmp 11), none)) rfl rfl (fun w' hS => val_move rfl) ?_
      refine yS (by kernel_rfl : opAt F6.o15 1 = some (some 94, .binOp .eql 35 (.tmp 93) (.const (.int .i64 0)) 35, none)) rfl rfl (fun w' hS => val_is (val_eql rfl rfl) (show _ = Value.bool true from congrArg Value.bool (decide_eq_true (rfl)))) ?_
      refine yS (by kernel_rfl : opAt F6.o15 2 = some (some 95, .move (.tmp 94), none)) rfl rfl (fun w' hS => val_move rfl) ?_
      refine yS (by kernel_rfl : opAt F6.o15 3 = some (some 96, .move (.tmp 16), (some (2, true)))) rfl rfl (fun w' hS => val_move rfl) ?_
      refine yS (by kernel_rfl : opAt F6.o15 4 = some (some 97, .binOp .eql 35 (.tmp 96) (.const (.int .i64 0)) 35, (some (2, true)))) rfl rfl (fun w' hS => val_is (val_eql rfl rfl) (show _ = Value.bool true from congrArg Value.bool (decide_eq_true (rfl)))) ?_
      refine yS (by kernel_rfl : opAt F6.o15 5 = some (some 98, .pick (.tmp 95) (.tmp 97) (.const (.bool false)), none)) rfl rfl (fun w' hS => val_pick_t rfl rfl) ?_
      refine yS (by kernel_rfl : opAt F6.o15 6 = some (some 99, .move (.tmp 98), none)) rfl rfl (fun w' hS => val_move rfl) ?_
      refine yS (by kernel_rfl : opAt F6.o15 7 = some (some 100, .move (.tmp 20), (some (6, true)))) rfl rfl (fun w' hS => val_move rfl) ?_
      refine yS (by kernel_rfl : opAt F6.o15 8 = some (some 101, .binOp .eql 35 (.tmp 100) (.const (.int .i64 0)) 35, (some (6, true)))) rfl rfl (fun w' hS => val_is (val_eql rfl rfl) (show _ = Value.bool true from congrArg Value.bool (decide_eq_true (rfl)))) ?_
      refine yS (by kernel_rfl : opAt F6.o15 9 = some (some 102, .pick (.tmp 99) (.tmp 101) (.const (.bool false)), none)) rfl rfl (fun w' hS => val_pick_t rfl rfl) ?_
      refine yS (by kernel_rfl : opAt F6.o15 10 = some (some 103, .move (.tmp 102), none)) rfl rfl (fun w' hS => val_move rfl) ?_
      refine yS (by kernel_rfl : opAt F6.o15 11 = some (some 104, .move (.tmp 15), (some (10, true)))) rfl rfl (fun w' hS => val_move rfl) ?_
      refine yS (by kernel_rfl : opAt F6.o15 12 = some (some 105, .move (.tmp 10), (some (10, true)))) rfl rfl (fun w' hS => val_move rfl) ?_
      refine yS (by kernel_rfl : opAt F6.o15 13 = some (some 106, .binOp .geq 3 (.tmp 104) (.tmp 105) 3, (some (10, true)))) rfl rfl (fun w' hS => val_is (val_geq rfl rfl) (show _ = Value.bool true from congrArg Value.bool (decide_eq_true (by omega)))) ?_
      refine yS (by kernel_rfl : opAt F6.o15 14 = some (some 107, .pick (.tmp 103) (.tmp 106) (.const (.bool false)), none)) rfl rfl (fun w' hS => val_pick_t rfl rfl) ?_
      refine yS (by kernel_rfl : opAt F6.o15 15 = some (some 108, .move (.tmp 107), none)) rfl rfl (fun w' hS => val_move rfl) ?_
      refine yS (by kernel_rfl : opAt F6.o15 16 = some (some 109, .move (.tmp 15), (some (15, true)))) rfl rfl (fun w' hS => val_move rfl) ?_
      refine yS (by kernel_rfl : opAt F6.o15 17 = some (some 110, .move (.tmp 10), (some (15, true)))) rfl rfl (fun w' hS => val_move rfl) ?_
      refine yS (by kernel_rfl : opAt F6.o15 18 = some (some 111, .move (.tmp 1), (some (15, true)))) rfl rfl (fun w' hS => val_move rfl) ?_
      refine yS (by kernel_rfl : opAt F6.o15 19 = some (some 112, .convert 5 3 (.tmp 111), (some (15, true)))) rfl rfl (fun w' hS => val_convE (r := (mm : Int)) rfl ⟨_, Try.underlying5⟩ Try.underlying3 (wrap_i64 (by omega) (by omega))) ?_
      refine yS (by kernel_rfl : opAt F6.o15 20 = some (some 113, .binOp .add 3 (.tmp 110) (.tmp 112) 3, (some (15, true)))) rfl rfl (fun w' hS => val_addi rfl rfl (by omega) (by omega)) ?_
      refine yS (by kernel_rfl : opAt F6.o15 21 = some (some 114, .binOp .leq 3 (.tmp 109) (.tmp 113) 3, (some (15, true)))) rfl rfl (fun w' hS => val_is (val_leq rfl rfl) (show _ = Value.bool true from congrArg Value.bool (decide_eq_true (by omega)))) ?_
      refine yS (by kernel_rfl : opAt F6.o15 22 = some (some 115, .pick (.tmp 108) (.tmp 114) (.const (.bool false)), none)) rfl rfl (fun w' hS => val_pick_t rfl rfl) ?_
      refine yS (by kernel_rfl : opAt F6.o15 23 = some (some 116, .move (.tmp 115), none)) rfl rfl (fun w' hS => val_move rfl) ?_
      refine yS (by kernel_rfl : opAt F6.o15 24 = some (some 117, .move (.tmp 19), (some (23, true)))) rfl rfl (fun w' hS => val_move rfl) ?_
      refine yS (by kernel_rfl : opAt F6.o15 25 = some (some 118, .move (.tmp 10), (some (23, true)))) rfl rfl (fun w' hS => val_move rfl) ?_
      refine yS (by kernel_rfl : opAt F6.o15 26 = some (some 119, .binOp .leq 3 (.tmp 117) (.tmp 118) 3, (some (23, true)))) rfl rfl (fun w' hS => val_is (val_leq rfl rfl) (show _ = Value.bool true from congrArg Value.bool (decide_eq_true (by omega)))) ?_
      refine yS (by kernel_rfl : opAt F6.o15 27 = some (some 120, .pick (.tmp 116) (.tmp 119) (.const (.bool false)), none)) rfl rfl (fun w' hS => val_pick_t rfl rfl) ?_
      refine yS (by kernel_rfl : opAt F6.o15 28 = some (some 121, .move (.tmp 120), none)) rfl rfl (fun w' hS => val_move rfl) ?_
      refine yS (by kernel_rfl : opAt F6.o15 29 = some (some 122, .move (.tmp 19), (some (28, true)))) rfl rfl (fun w' hS => val_move rfl) ?_
      refine yS (by kernel_rfl : opAt F6.o15 30 = some (some 123, .move (.tmp 10), (some (28, true)))) rfl rfl (fun w' hS => val_move rfl) ?_
      refine yS (by kernel_rfl : opAt F6.o15 31 = some (some 124, .move (.tmp 8), (some (28, true)))) rfl rfl (fun w' hS => val_move rfl) ?_
      refine yS (by kernel_rfl : opAt F6.o15 32 = some (some 125, .move (.tmp 12), (some (28, true)))) rfl rfl (fun w' hS => val_move rfl) ?_
      refine iS (e := 46) (by kernel_rfl : opAt F6.o15 33 = some (some 126, .indexAddr 23 (.tmp 124) (.tmp 125), (some (28, true)))) rfl rfl he rfl (by kernel_rfl) rfl (by omega) (by omega) ?_
      intro b126 o126 h126
      try simp only [Int.toNat_natCast] at h126
      have h127 := RA.ew h126
      refine yS (by kernel_rfl : opAt F6.o15 34 = some (some 127, .fieldAddr 46 (.tmp 126) 2, (some (28, true)))) rfl rfl (fun w' hS => val_fieldAddr (off := 2) (by kernel_rfl) rfl) ?_
      refine lN (by kernel_rfl : opAt F6.o15 35 = some (some 128, .load 3 (.tmp 127), (some (28, true)))) rfl rfl trivial h127 (by kernel_rfl) rfl rfl ?_
      intro v128 g128
      first | (obtain rfl := rv_nat.1 g128) | (obtain rfl := rv_int.1 g128)
      refine yS (by kernel_rfl : opAt F6.o15 36 = some (some 129, .call { callee := .builtin .max, args := #[(.const (.int .i64 0)), (.tmp 128)], argTypes := #[3, 3] }, (some (28, true)))) rfl rfl (fun w' hS => val_max rfl rfl Try.underlying3) ?_
      refine yS (by kernel_rfl : opAt F6.o15 37 = some (some 130, .binOp .sub 3 (.tmp 123) (.tmp 129) 3, (some (28, true)))) rfl rfl (fun w' hS => val_subi rfl rfl (by omega) (by omega)) ?_
      refine yS (by kernel_rfl : opAt F6.o15 38 = some (some 131, .binOp .geq 3 (.tmp 122) (.tmp 130) 3, (some (28, true)))) rfl rfl (fun w' hS => val_is (val_geq rfl rfl) (show _ = Value.bool true from congrArg Value.bool (decide_eq_true (by omega)))) ?_
      refine yS (by kernel_rfl : opAt F6.o15 39 = some (some 132, .pick (.tmp 121) (.tmp 131) (.const (.bool false)), none)) rfl rfl (fun w' hS => val_pick_t rfl rfl) ?_
      refine yS (by kernel_rfl : opAt F6.o15 40 = some (some 4, .assign (.tmp 132), none)) rfl rfl (fun w' hS => val_assign rfl) ?_
      refine Sch.nil ?_
      refine run_ret1 (by kernel_rfl) Try.func6 Try.results6 rfl ?_
      exact ⟨rfl, hT.out1 (by decide)⟩
end Go.Proofs.Ytgooehopkmbkfaa
