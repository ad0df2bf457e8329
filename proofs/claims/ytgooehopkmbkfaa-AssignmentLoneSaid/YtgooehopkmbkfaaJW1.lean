/- Steps through functions of the program. -/
import Derived.Test.YtgooehopkmbkfaaJV3
import Derived.Test.YtgooehopkmbkfaaL2
set_option linter.unusedVariables false
set_option linter.unusedSimpArgs false
set_option maxRecDepth 100000
set_option maxHeartbeats 4000000
namespace Go.Proofs.Ytgooehopkmbkfaa
open Go.K Go.K.Rep

namespace F9
noncomputable def c0 : Code := bodyOf Try.f9
noncomputable def c1 : Code := cl c0
noncomputable def o0 : Array Oper := rops c1
noncomputable def c2 : Code := cr c0
noncomputable def c3 : Code := cl c2
noncomputable def c4 : Code := cl c3
noncomputable def o1 : Array Oper := rops c4
noncomputable def c5 : Code := cr c3
noncomputable def c6 : Code := cl c5
noncomputable def c7 : Code := cl c6
noncomputable def o2 : Array Oper := rops c7
noncomputable def c8 : Code := cr c6
noncomputable def c9 : Code := cr c5
noncomputable def c10 : Code := cr c2
noncomputable def c11 : Code := cl c10
noncomputable def o3 : Array Oper := rops c11
noncomputable def c12 : Code := cr c10
noncomputable def c13 : Code := cl c12
noncomputable def o4 : Array Oper := rops c13
noncomputable def c14 : Code := cr c12
noncomputable def c15 : Code := cl c14
noncomputable def o5 : Array Oper := rops c15
noncomputable def c16 : Code := cr c14
noncomputable def c17 : Code := cl c16
noncomputable def o6 : Array Oper := rops c17
noncomputable def c18 : Code := cr c16
noncomputable def c19 : Code := cl c18
noncomputable def o7 : Array Oper := rops c19
noncomputable def c20 : Code := cr c18
noncomputable def c21 : Code := cl c20
noncomputable def o8 : Array Oper := rops c21
noncomputable def c22 : Code := cr c20
noncomputable def c23 : Code := cl c22
noncomputable def c24 : Code := cl c23
noncomputable def o9 : Array Oper := rops c24
noncomputable def c25 : Code := cr c23
noncomputable def c26 : Code := cl c25
noncomputable def c27 : Code := cl c26
noncomputable def c28 : Code := cl c27
noncomputable def o10 : Array Oper := rops c28
noncomputable def c29 : Code := cr c27
noncomputable def c30 : Code := cl c29
noncomputable def c31 : Code := cl c30
noncomputable def c32 : Code := cr c30
noncomputable def c33 : Code := cr c29
noncomputable def c34 : Code := cl c33
noncomputable def c35 : Code := cl c34
noncomputable def c36 : Code := cl c35
noncomputable def o11 : Array Oper := rops c36
noncomputable def c37 : Code := cr c35
noncomputable def c38 : Code := cl c37
noncomputable def c39 : Code := cl c38
noncomputable def o12 : Array Oper := rops c39
noncomputable def c40 : Code := cr c38
noncomputable def c41 : Code := cl c40
noncomputable def o13 : Array Oper := rops c41
noncomputable def c42 : Code := cr c40
noncomputable def o14 : Array Oper := rops c42
noncomputable def c43 : Code := cr c37
noncomputable def c44 : Code := cl c43
noncomputable def o15 : Array Oper := rops c44
noncomputable def c45 : Code := cr c43
noncomputable def c46 : Code := cl c45
noncomputable def o16 : Array Oper := rops c46
noncomputable def c47 : Code := cr c45
noncomputable def c48 : Code := cr c33
noncomputable def o17 : Array Oper := rops c48
noncomputable def c49 : Code := cr c22
noncomputable def c50 : Code := cl c49
noncomputable def o18 : Array Oper := rops c50
noncomputable def c51 : Code := cr c49
noncomputable def c52 : Code := cl c51
noncomputable def o19 : Array Oper := rops c52
noncomputable def c53 : Code := cr c51
noncomputable def c54 : Code := cl c53
noncomputable def o20 : Array Oper := rops c54
noncomputable def c55 : Code := cr c53
noncomputable def c56 : Code := cl c55
noncomputable def o21 : Array Oper := rops c56
noncomputable def c57 : Code := cr c55
end F9
/-- A node that is taken away costs at most its greatest weight; edges without a positive weight do not matter. -/
theorem assignmentLone_ok {w₀ : World} {C : Nat → Nat} {l : List Int} {vl : Value} (hF : Lim w₀ C) (hl : RV w₀ (Mc C) l vl) : Calls Try.prog 9 #[vl] w₀ (Ret fun v w' => v = .bool true ∧ Stp [] w₀ C w' C) := by
  have hF0 := hF
  have hT := Stp.refl [2, 3, 4, 5, 6, 7, 8, 9] w₀ (col1 C)
  replace hF := hF.col1
  replace hl : RV w₀ (Mc (col1 C)) l vl := by rw [Mc_col1]; exact hl
  refine calls_start (c := F9.c0) (N := 127) [vl] Try.func9 (by kernel_rfl) (by kernel_rfl) (by kernel_rfl) ?_
  show Run _ _ _ _ [(0, vl)] _ _
  refine run_seq (x := F9.c1) (y := F9.c2) (by kernel_rfl) ?_
  refine run_plain (id := 0) (ops := F9.o0) [(0, true)] (by kernel_rfl) (by kernel_rfl) ?_
  refine yS (by kernel_rfl : opAt F9.o0 0 = some (some 2, .assign (.const (.bool false)), none)) rfl rfl (fun w' hS => val_assign rfl) ?_
  refine Sch.nil ?_
  refine run_seq (x := F9.c3) (y := F9.c10) (by kernel_rfl) ?_
  refine run_seq (x := F9.c4) (y := F9.c5) (by kernel_rfl) ?_
  refine run_plain (id := 1) (ops := F9.o1) [(0, false), (1, true), (2, true), (3, true), (4, false), (5, true), (6, true)] (by kernel_rfl) (by kernel_rfl) ?_
  refine cS (by kernel_rfl : opAt F9.o1 0 = some (some 22, .call { callee := .value (.func 10), args := #[], argTypes := #[] }, none)) rfl rfl (ent Try.call10 rfl) (awake_ok hF) ?_
  rintro vw1 w1 ⟨rfl, hs⟩
  refine ⟨trivial, ?_⟩
  replace hF := hF.st hs
  replace hT := hT.trans hs (by simp)
  replace hl := hl.st hs (by first | decide | (simp <;> omega))
  refine yS (by kernel_rfl : opAt F9.o1 1 = some (some 23, .unOp .not 4 (.tmp 22), none)) rfl rfl (fun w' hS => val_not rfl) ?_
  refine yS (by kernel_rfl : opAt F9.o1 2 = some (some 24, .move (.tmp 23), none)) rfl rfl (fun w' hS => val_move rfl) ?_
  refine yS (by kernel_rfl : opAt F9.o1 3 = some (some 25, .move (.tmp 0), (some (2, false)))) rfl rfl (fun w' hS => val_move rfl) ?_
  refine cS (by kernel_rfl : opAt F9.o1 4 = some (some 26, .call { callee := .value (.func 11), args := #[(.tmp 25)], argTypes := #[22] }, (some (2, false)))) rfl rfl (ent Try.call11 rfl) (few_any hl) ?_
  rintro vw2 w2 ⟨rfl, rfl⟩
  refine ⟨trivial, ?_⟩
  refine yS (by kernel_rfl : opAt F9.o1 5 = some (some 27, .unOp .not 4 (.tmp 26), (some (2, false)))) rfl rfl (fun w' hS => val_notd rfl) ?_
  refine yS (by kernel_rfl : opAt F9.o1 6 = some (some 28, .pick (.tmp 24) (.const (.bool true)) (.tmp 27), none)) rfl rfl (fun w' hS => val_pick_f rfl rfl) ?_
  refine Sch.nil ?_
  refine run_if (x := F9.c6) (y := F9.c9) (o := .tmp 28) (by kernel_rfl) rfl (fun h28 => ?_) (fun h28 => ?_)
  · skip
    refine run_seq (x := F9.c7) (y := F9.c8) (by kernel_rfl) ?_
    refine run_plain (id := 2) (ops := F9.o2) [(0, false), (1, true)] (by kernel_rfl) (by kernel_rfl) ?_
    refine cS (by kernel_rfl : opAt F9.o2 0 = some (some 29, .call { callee := .value (.func 10), args := #[], argTypes := #[] }, none)) rfl rfl (ent Try.call10 rfl) (awake_ok hF) ?_
    rintro vw3 w3 ⟨rfl, hs⟩
    refine ⟨trivial, ?_⟩
    replace hF := hF.st hs
    replace hT := hT.trans hs (by simp)
    replace hl := hl.st hs (by first | decide | (simp <;> omega))
    refine yS (by kernel_rfl : opAt F9.o2 1 = some (some 2, .assign (.tmp 29), none)) rfl rfl (fun w' hS => val_assign rfl) ?_
    refine Sch.nil ?_
    refine run_ret1 (by kernel_rfl) Try.func9 Try.results9 rfl ?_
    exact ⟨rfl, hT.out1 (by decide)⟩
  · skip
    refine run_skip (by kernel_rfl) ?_
    refine run_seq (x := F9.c11) (y := F9.c12) (by kernel_rfl) ?_
    refine run_plain (id := 3) (ops := F9.o3) [(0, true), (1, false), (2, true)] (by kernel_rfl) (by kernel_rfl) ?_
    refine yS (by kernel_rfl : opAt F9.o3 0 = some (some 30, .move (.tmp 0), none)) rfl rfl (fun w' hS => val_move rfl) ?_
    refine cS (by kernel_rfl : opAt F9.o3 1 = some (some 31, .call { callee := .value (.func 12), args := #[(.tmp 30)], argTypes := #[22] }, none)) rfl rfl (ent Try.call12 rfl) (new_any hF hl) ?_
    rintro vw4 w4 ⟨Cd, bd, rfl, hs, hF, hd⟩
    refine ⟨trivial, ?_⟩
    replace hT := hT.trans hs (by simp)
    replace hl := hl.st hs (by first | decide | (simp <;> omega))
    refine yS (by kernel_rfl : opAt F9.o3 2 = some (some 3, .assign (.tmp 31), none)) rfl rfl (fun w' hS => val_assign rfl) ?_
    refine Sch.nil ?_
    refine run_seq (x := F9.c13) (y := F9.c14) (by kernel_rfl) ?_
    refine run_plain (id := 4) (ops := F9.o4) [(0, true), (1, false), (2, true), (3, true), (4, false), (5, true), (6, true), (7, true)] (by kernel_rfl) (by kernel_rfl) ?_
    refine yS (by kernel_rfl : opAt F9.o4 0 = some (some 32, .move (.tmp 3), none)) rfl rfl (fun w' hS => val_move rfl) ?_
    refine cS (by kernel_rfl : opAt F9.o4 1 = some (some 33, .call { callee := .value (.func 13), args := #[(.tmp 32), (.const (.int .i64 5))], argTypes := #[27, 3] }, none)) rfl rfl (ent Try.call13 rfl) (next_any (n := 5) hF (by decide) hd (by omega) (by omega)) ?_
    rintro vw5 w5 ⟨p, rfl, hp, hs, hd⟩
    refine ⟨trivial, ?_⟩
    replace hF := hF.st hs
    replace hT := hT.trans hs (by simp)
    replace hl := hl.st hs (by first | decide | (simp <;> omega))
    refine yS (by kernel_rfl : opAt F9.o4 2 = some (some 34, .binOp .add 3 (.const (.int .i64 1)) (.tmp 33) 3, none)) rfl rfl (fun w' hS => val_addi rfl rfl (by omega) (by omega)) ?_
    obtain ⟨n, hnd⟩ : ∃ x : Nat, x = p + 1 := ⟨_, rfl⟩
    rw [show (1 : Int) + (p : Int) = ((n : Nat) : Int) from by omega]
    refine yS (by kernel_rfl : opAt F9.o4 3 = some (some 35, .move (.tmp 3), none)) rfl rfl (fun w' hS => val_move rfl) ?_
    refine cS (by kernel_rfl : opAt F9.o4 4 = some (some 36, .call { callee := .value (.func 13), args := #[(.tmp 35), (.const (.int .i64 5))], argTypes := #[27, 3] }, none)) rfl rfl (ent Try.call13 rfl) (next_any (n := 5) hF (by decide) hd (by omega) (by omega)) ?_
    rintro vw6 w6 ⟨q, rfl, hq, hs, hd⟩
    refine ⟨trivial, ?_⟩
    replace hF := hF.st hs
    replace hT := hT.trans hs (by simp)
    replace hl := hl.st hs (by first | decide | (simp <;> omega))
    refine yS (by kernel_rfl : opAt F9.o4 5 = some (some 37, .binOp .add 3 (.const (.int .i64 1)) (.tmp 36) 3, none)) rfl rfl (fun w' hS => val_addi rfl rfl (by omega) (by omega)) ?_
    obtain ⟨m, hmd⟩ : ∃ x : Nat, x = q + 1 := ⟨_, rfl⟩
    rw [show (1 : Int) + (q : Int) = ((m : Nat) : Int) from by omega]
    refine yS (by kernel_rfl : opAt F9.o4 6 = some (some 4, .assign (.tmp 34), none)) rfl rfl (fun w' hS => val_assign rfl) ?_
    refine yS (by kernel_rfl : opAt F9.o4 7 = some (some 5, .assign (.tmp 37), none)) rfl rfl (fun w' hS => val_assign rfl) ?_
    refine Sch.nil ?_
    refine run_seq (x := F9.c15) (y := F9.c16) (by kernel_rfl) ?_
    refine run_plain (id := 5) (ops := F9.o5) [(0, true), (1, true), (2, true), (3, false), (4, true)] (by kernel_rfl) (by kernel_rfl) ?_
    refine yS (by kernel_rfl : opAt F9.o5 0 = some (some 38, .move (.tmp 3), none)) rfl rfl (fun w' hS => val_move rfl) ?_
    refine yS (by kernel_rfl : opAt F9.o5 1 = some (some 39, .move (.tmp 4), none)) rfl rfl (fun w' hS => val_move rfl) ?_
    refine yS (by kernel_rfl : opAt F9.o5 2 = some (some 40, .move (.tmp 5), none)) rfl rfl (fun w' hS => val_move rfl) ?_
    refine cS (by kernel_rfl : opAt F9.o5 3 = some (some 41, .call { callee := .value (.func 14), args := #[(.tmp 38), (.tmp 39), (.tmp 40), (.const (.int .i64 2))], argTypes := #[27, 3, 3, 3] }, none)) rfl rfl (ent Try.call14 rfl) (edges_any (n := n) (m := m) (one := 2) hF (by decide) hd (by omega) (by omega) (by decide) (by decide)) ?_
    rintro v_el w7 ⟨el, hE, ⟨hs, he, hd⟩, _⟩
    have hEV := hE.ve (by omega) (by omega)
    have hEc := hEV.check
    refine ⟨trivial, ?_⟩
    replace hF := hF.st hs
    replace hT := hT.trans hs (by simp)
    replace hl := hl.st hs (by first | decide | (simp <;> omega))
    refine yS (by kernel_rfl : opAt F9.o5 4 = some (some 6, .assign (.tmp 41), none)) rfl rfl (fun w' hS => val_assign rfl) ?_
    refine Sch.nil ?_
    refine run_seq (x := F9.c17) (y := F9.c18) (by kernel_rfl) ?_
    refine run_plain (id := 6) (ops := F9.o6) [(0, true), (1, true), (2, false), (3, true)] (by kernel_rfl) (by kernel_rfl) ?_
    refine yS (by kernel_rfl : opAt F9.o6 0 = some (some 42, .move (.tmp 3), none)) rfl rfl (fun w' hS => val_move rfl) ?_
    refine yS (by kernel_rfl : opAt F9.o6 1 = some (some 43, .move (.tmp 4), none)) rfl rfl (fun w' hS => val_move rfl) ?_
    refine cS (by kernel_rfl : opAt F9.o6 2 = some (some 44, .call { callee := .value (.func 13), args := #[(.tmp 42), (.tmp 43)], argTypes := #[27, 3] }, none)) rfl rfl (ent Try.call13 rfl) (next_any (n := (n : Int)) hF (by decide) hd (by omega) (by omega)) ?_
    rintro vw8 w8 ⟨gone, rfl, hgone, hs, hd⟩
    refine ⟨trivial, ?_⟩
    replace hF := hF.st hs
    replace hT := hT.trans hs (by simp)
    replace hl := hl.st hs (by first | decide | (simp <;> omega))
    replace he := he.st hs (by first | decide | (simp <;> omega))
    refine yS (by kernel_rfl : opAt F9.o6 3 = some (some 7, .assign (.tmp 44), none)) rfl rfl (fun w' hS => val_assign rfl) ?_
    refine Sch.nil ?_
    refine run_seq (x := F9.c19) (y := F9.c20) (by kernel_rfl) ?_
    refine run_plain (id := 7) (ops := F9.o7) [(0, true), (1, true)] (by kernel_rfl) (by kernel_rfl) ?_
    refine yS (by kernel_rfl : opAt F9.o7 0 = some (some 8, .assign (.const (.slice none 0 0)), none)) rfl rfl (fun w' hS => val_assign rfl) ?_
    refine yS (by kernel_rfl : opAt F9.o7 1 = some (some 9, .assign (.const (.slice none 0 0)), none)) rfl rfl (fun w' hS => val_assign rfl) ?_
    refine Sch.nil ?_
    refine run_seq (x := F9.c21) (y := F9.c22) (by kernel_rfl) ?_
    refine run_plain (id := 8) (ops := F9.o8) [(0, true)] (by kernel_rfl) (by kernel_rfl) ?_
    refine yS (by kernel_rfl : opAt F9.o8 0 = some (some 10, .assign (.const (.int .i64 0)), none)) rfl rfl (fun w' hS => val_assign rfl) ?_
    refine Sch.nil ?_
    refine run_seq (x := F9.c23) (y := F9.c49) (by kernel_rfl) ?_
    refine run_seq (x := F9.c24) (y := F9.c25) (by kernel_rfl) ?_
    refine run_plain (id := 9) (ops := F9.o9) [(0, true), (1, true), (2, true)] (by kernel_rfl) (by kernel_rfl) ?_
    refine yS (by kernel_rfl : opAt F9.o9 0 = some (some 45, .move (.tmp 6), none)) rfl rfl (fun w' hS => val_move rfl) ?_
    refine yS (by kernel_rfl : opAt F9.o9 1 = some (some 46, .call { callee := .builtin .len, args := #[(.tmp 45)], argTypes := #[23] }, none)) rfl rfl (fun w' hS => he.lenV rfl Try.underlying23 w' ) ?_
    refine yS (by kernel_rfl : opAt F9.o9 2 = some (some 47, .move (.const (.int .i64 0)), none)) rfl rfl (fun w' hS => val_move rfl) ?_
    refine Sch.nil ?_
    refine run_block (x := F9.c26) (id := 0) (by kernel_rfl) ?_
    
    refine run_loop (ι := Nat × Value × Value × (Nat → Nat)) (I := fun x w => x.1 ≤ el.length ∧ Lim w x.2.2.2 ∧ Stp [2, 3, 4, 5, 6, 7, 8, 9] w₀ (col1 C) w x.2.2.2 ∧ RV w (Mc x.2.2.2) el v_el ∧ OwnL w x.2.2.2 4 46 x.2.1 ((el.take x.1).filter (fun x => decide (x.a ≠ (gone : Int)))) ∧ OwnL w x.2.2.2 5 46 x.2.2.1 ((el.take x.1).filter (fun x => decide (0 < x.w)))) (e := fun x => [(4, .int .i64 n), (5, .int .i64 m), (6, v_el), (7, .int .i64 gone), (8, x.2.1), (9, x.2.2.1), (10, .int .i64 (mostR (el.take x.1) gone)), (45, v_el), (46, .int .i64 el.length), (47, .int .i64 x.1)]) (m := fun x => el.length - x.1) (x₀ := (0, .slice none 0 0, .slice none 0 0, Cd)) (body := F9.c27) (by kernel_rfl) (sub_cons 4 rfl rfl (sub_cons 5 rfl rfl (sub_cons 6 rfl rfl (sub_cons 7 rfl rfl (sub_cons 8 rfl rfl (sub_cons 9 rfl rfl (sub_cons 10 rfl rfl (sub_cons 45 rfl rfl (sub_cons 46 rfl rfl (sub_cons 47 rfl rfl (sub_nil _))))))))))) ?_ ?_
    · exact ⟨Nat.zero_le _, hF, hT, he, OwnL.nil, OwnL.nil⟩
    intro ⟨i, vf, vp, C1⟩ w9 hI next
    obtain ⟨hi, hF, hT, he, hf, hp⟩ := hI
    try simp only at hi hF hT he hf hp
    have next1 := next
    clear next
    show Run _ _ _ _ [(4, .int .i64 n), (5, .int .i64 m), (6, v_el), (7, .int .i64 gone), (8, vf), (9, vp), (10, .int .i64 (mostR (el.take i) gone)), (45, v_el), (46, .int .i64 el.length), (47, .int .i64 i)] _ _
    have hlf := List.length_filter_le (fun x => decide (x.a ≠ (gone : Int))) (el.take i)
    have hlp := List.length_filter_le (fun x => decide (0 < x.w)) (el.take i)
    rw [List.length_take] at hlf hlp
    have hel := hE.len
    refine run_seq (x := F9.c28) (y := F9.c29) (by kernel_rfl) ?_
    refine run_plain (id := 10) (ops := F9.o10) [(0, true)] (by kernel_rfl) (by kernel_rfl) ?_
    refine yS (by kernel_rfl : opAt F9.o10 0 = some (some 48, .binOp .lss 3 (.tmp 47) (.tmp 46) 3, none)) rfl rfl (fun w' hS => val_lss rfl rfl) ?_
    refine Sch.nil ?_
    refine run_seq (x := F9.c30) (y := F9.c33) (by kernel_rfl) ?_
    refine run_if (x := F9.c31) (y := F9.c32) (o := .tmp 48) (by kernel_rfl) rfl (fun h48 => ?_) (fun h48 => ?_)
    · skip
      have hil : i < el.length := by omega
      have htk := List.take_succ_eq_append_getElem hil
      refine run_skip (by kernel_rfl) ?_
      refine run_seq (x := F9.c34) (y := F9.c48) (by kernel_rfl) ?_
      refine run_block (x := F9.c35) (id := 1) (by kernel_rfl) ?_
      refine run_seq (x := F9.c36) (y := F9.c37) (by kernel_rfl) ?_
      refine run_plain (id := 11) (ops := F9.o11) [(0, true), (1, false), (2, false), (3, false)] (by kernel_rfl) (by kernel_rfl) ?_
      refine iS (e := 46) (by kernel_rfl : opAt F9.o11 0 = some (some 49, .indexAddr 23 (.tmp 45) (.tmp 47), none)) rfl rfl he rfl (by kernel_rfl) rfl (by omega) (by omega) ?_
      intro b49 o49 h49
      try simp only [Int.toNat_natCast] at h49
      refine lNA (by kernel_rfl : opAt F9.o11 1 = some (some 50, .load 46 (.tmp 49), none)) rfl rfl trivial h49 (by kernel_rfl) (by kernel_rfl) rfl rfl ?_
      intro v50 g50
      obtain rfl := rv_edge.1 g50
      refine aS (by kernel_rfl : opAt F9.o11 2 = some (some 12, .alloc 46, none)) rfl rfl (a_alloc (cs := [.int .i64 0, .int .i64 0, .int .i64 0]) hF 6 (by kernel_rfl)) ?_
      rintro _ w10 ⟨Cw10, bw10, rfl, hs, hx, hF⟩
      refine ⟨trivial, ?_⟩
      replace hT := hT.trans hs (by simp)
      replace he := he.st hs (by first | decide | (simp <;> omega))
      replace hf := hf.st hs (by first | decide | (simp <;> omega)) (by first | decide | (simp <;> omega))
      replace hp := hp.st hs (by first | decide | (simp <;> omega)) (by first | decide | (simp <;> omega))
      replace h49 := h49.st hs (by first | decide | (simp <;> omega))
      refine aN (by kernel_rfl : opAt F9.o11 3 = some (none, .store 46 (.tmp 12) (.tmp 50), none)) rfl (a_storeAll (vs := encE (el[i]'hil)) (n := 3) rfl rfl (by kernel_rfl) rfl rfl (by intro u hu; simp only [encE, List.mem_cons, List.not_mem_nil, or_false] at hu; rcases hu with rfl | rfl | rfl <;> rfl) hx rfl) ?_
      rintro _ w11 ⟨rfl, hs, hx⟩
      refine ⟨trivial, ?_⟩
      replace hF := hF.st hs
      replace hT := hT.trans hs (by simp)
      replace he := he.st hs (by first | decide | (simp <;> omega))
      replace hf := hf.st hs (by first | decide | (simp <;> omega)) (by first | decide | (simp <;> omega))
      replace hp := hp.st hs (by first | decide | (simp <;> omega)) (by first | decide | (simp <;> omega))
      replace h49 := h49.st hs (by first | decide | (simp <;> omega))
      refine Sch.nil ?_
      refine run_seq (x := F9.c38) (y := F9.c43) (by kernel_rfl) ?_
      refine run_seq (x := F9.c39) (y := F9.c40) (by kernel_rfl) ?_
      refine run_plain (id := 12) (ops := F9.o12) [(0, true), (1, false), (2, true), (3, true)] (by kernel_rfl) (by kernel_rfl) ?_
      refine yS (by kernel_rfl : opAt F9.o12 0 = some (some 51, .fieldAddr 46 (.tmp 12) 0, none)) rfl rfl (fun w' hS => val_fieldAddr (off := 0) (by kernel_rfl) rfl) ?_
      refine nS (by kernel_rfl : opAt F9.o12 1 = some (some 52, .load 3 (.tmp 51), none)) rfl rfl trivial (val_loadOwn hx.at_ (by kernel_rfl) rfl rfl) ?_
      refine yS (by kernel_rfl : opAt F9.o12 2 = some (some 53, .move (.tmp 7), none)) rfl rfl (fun w' hS => val_move rfl) ?_
      refine yS (by kernel_rfl : opAt F9.o12 3 = some (some 54, .binOp .eql 3 (.tmp 52) (.tmp 53) 3, none)) rfl rfl (fun w' hS => val_eql rfl rfl) ?_
      refine Sch.nil ?_
      refine run_if (x := F9.c41) (y := F9.c42) (o := .tmp 54) (by kernel_rfl) rfl (fun h54 => ?_) (fun h54 => ?_)
      · skip
        refine run_plain (id := 13) (ops := F9.o13) [(0, true), (1, true), (2, false), (3, true), (4, true)] (by kernel_rfl) (by kernel_rfl) ?_
        refine yS (by kernel_rfl : opAt F9.o13 0 = some (some 55, .move (.tmp 10), none)) rfl rfl (fun w' hS => val_move rfl) ?_
        refine yS (by kernel_rfl : opAt F9.o13 1 = some (some 56, .fieldAddr 46 (.tmp 12) 2, none)) rfl rfl (fun w' hS => val_fieldAddr (off := 2) (by kernel_rfl) rfl) ?_
        refine nS (by kernel_rfl : opAt F9.o13 2 = some (some 57, .load 3 (.tmp 56), none)) rfl rfl trivial (val_loadOwn hx.at_ (by kernel_rfl) rfl rfl) ?_
        refine yS (by kernel_rfl : opAt F9.o13 3 = some (some 58, .call { callee := .builtin .max, args := #[(.tmp 55), (.tmp 57)], argTypes := #[3, 3] }, none)) rfl rfl (fun w' hS => val_max rfl rfl Try.underlying3) ?_
        refine yS (by kernel_rfl : opAt F9.o13 4 = some (some 10, .assign (.tmp 58), none)) rfl rfl (fun w' hS => val_assign rfl) ?_
        refine Sch.nil ?_
        refine run_seq (x := F9.c44) (y := F9.c45) (by kernel_rfl) ?_
        refine run_plain (id := 15) (ops := F9.o15) [(0, true), (1, false), (2, true)] (by kernel_rfl) (by kernel_rfl) ?_
        refine yS (by kernel_rfl : opAt F9.o15 0 = some (some 63, .fieldAddr 46 (.tmp 12) 2, none)) rfl rfl (fun w' hS => val_fieldAddr (off := 2) (by kernel_rfl) rfl) ?_
        refine nS (by kernel_rfl : opAt F9.o15 1 = some (some 64, .load 3 (.tmp 63), none)) rfl rfl trivial (val_loadOwn hx.at_ (by kernel_rfl) rfl rfl) ?_
        refine yS (by kernel_rfl : opAt F9.o15 2 = some (some 65, .binOp .gtr 3 (.tmp 64) (.const (.int .i64 0)) 3, none)) rfl rfl (fun w' hS => val_gtr rfl rfl) ?_
        refine Sch.nil ?_
        refine run_if (x := F9.c46) (y := F9.c47) (o := .tmp 65) (by kernel_rfl) rfl (fun h65 => ?_) (fun h65 => ?_)
        · skip
          refine run_plain (id := 16) (ops := F9.o16) [(0, true), (1, false), (2, false), (3, false), (4, true)] (by kernel_rfl) (by kernel_rfl) ?_
          refine yS (by kernel_rfl : opAt F9.o16 0 = some (some 66, .move (.tmp 9), none)) rfl rfl (fun w' hS => val_move rfl) ?_
          refine nS (by kernel_rfl : opAt F9.o16 1 = some (some 67, .load 46 (.tmp 12), none)) rfl rfl trivial (val_loadOwnAgg (n := 3) (vs := encE (el[i]'hil)) hx.at_ (by kernel_rfl) (by kernel_rfl) rfl rfl rfl) ?_
          refine aS (by kernel_rfl : opAt F9.o16 2 = some (some 68, .buildSlice 23 1 #[(0, (.tmp 67))], none)) rfl rfl (a_buildSlice (ys := ([el[i]'hil] : List K.Edge)) (e := 46) (bytes := 24) hF (by kernel_rfl) rfl (by decide) (by decide) ⟨rfl, ⟨_, rfl, rv_edge.2 rfl⟩, trivial⟩) ?_
          rintro v68 w12 ⟨hs, g68, hF⟩
          refine ⟨trivial, ?_⟩
          replace hT := hT.trans hs (by simp)
          replace he := he.st hs (by first | decide | (simp <;> omega))
          replace hf := hf.st hs (by first | decide | (simp <;> omega)) (by first | decide | (simp <;> omega))
          replace hp := hp.st hs (by first | decide | (simp <;> omega)) (by first | decide | (simp <;> omega))
          replace h49 := h49.st hs (by first | decide | (simp <;> omega))
          replace hx := hx.st hs (by first | decide | (simp <;> omega))
          refine aS (by kernel_rfl : opAt F9.o16 3 = some (some 69, .call { callee := .builtin .append, args := #[(.tmp 66), (.tmp 68)], argTypes := #[23, 23] }, none)) rfl rfl (a_append (e := 46) (bytes := 24) hF (by decide) rfl rfl (by kernel_rfl) (by decide) hp g68 (by simp only [List.length_cons, List.length_nil]; omega) (by simp only [List.length_cons, List.length_nil]; omega)) ?_
          rintro v69 w13 ⟨Cw13, hs, hp, hF⟩
          refine ⟨trivial, ?_⟩
          replace hT := hT.trans hs (by simp)
          replace he := he.st hs (by first | decide | (simp <;> omega))
          replace hf := hf.st hs (by first | decide | (simp <;> omega)) (by first | decide | (simp <;> omega))
          replace h49 := h49.st hs (by first | decide | (simp <;> omega))
          replace hx := hx.st hs (by first | decide | (simp <;> omega))
          replace g68 := g68.st hs (by first | decide | (simp <;> omega))
          refine yS (by kernel_rfl : opAt F9.o16 4 = some (some 9, .assign (.tmp 69), none)) rfl rfl (fun w' hS => val_assign rfl) ?_
          refine Sch.nil ?_
          refine run_inBlock ?_
          refine run_plain (id := 17) (ops := F9.o17) [(0, true), (1, true)] (by kernel_rfl) (by kernel_rfl) ?_
          refine yS (by kernel_rfl : opAt F9.o17 0 = some (some 70, .binOp .add 3 (.tmp 47) (.const (.int .i64 1)) 3, none)) rfl rfl (fun w' hS => val_addi rfl rfl (by omega) (by omega)) ?_
          refine yS (by kernel_rfl : opAt F9.o17 1 = some (some 47, .move (.tmp 70), none)) rfl rfl (fun w' hS => val_move rfl) ?_
          refine Sch.nil ?_
          refine kp (sub_cons 4 rfl rfl (sub_cons 5 rfl rfl (sub_cons 6 rfl rfl (sub_cons 7 rfl rfl (sub_cons 8 rfl rfl (sub_cons 9 rfl rfl (sub_cons 10 rfl (eq_int (by unfold mostR; rw [foldl_take _ _ _ _ hil, if_pos h54])) (sub_cons 45 rfl rfl (sub_cons 46 rfl rfl (sub_cons 47 rfl (eq_int (by simp)) (sub_nil _))))))))))) (next1 (i + 1, vf, v69, Cw13) _ ⟨(by first | omega | (simp only; omega)), hF, hT, he, (by simp only; rw [htk, List.filter_append, List.filter_cons, if_neg (by simpa using h54), List.filter_nil, List.append_nil]; exact hf), (by simp only; rw [htk, List.filter_append, List.filter_cons, if_pos (by simpa using h65), List.filter_nil]; exact hp)⟩ (by first | omega | (simp only; omega)))
        · skip
          refine run_skip (by kernel_rfl) ?_
          refine run_inBlock ?_
          refine run_plain (id := 17) (ops := F9.o17) [(0, true), (1, true)] (by kernel_rfl) (by kernel_rfl) ?_
          refine yS (by kernel_rfl : opAt F9.o17 0 = some (some 70, .binOp .add 3 (.tmp 47) (.const (.int .i64 1)) 3, none)) rfl rfl (fun w' hS => val_addi rfl rfl (by omega) (by omega)) ?_
          refine yS (by kernel_rfl : opAt F9.o17 1 = some (some 47, .move (.tmp 70), none)) rfl rfl (fun w' hS => val_move rfl) ?_
          refine Sch.nil ?_
          refine kp (sub_cons 4 rfl rfl (sub_cons 5 rfl rfl (sub_cons 6 rfl rfl (sub_cons 7 rfl rfl (sub_cons 8 rfl rfl (sub_cons 9 rfl rfl (sub_cons 10 rfl (eq_int (by unfold mostR; rw [foldl_take _ _ _ _ hil, if_pos h54])) (sub_cons 45 rfl rfl (sub_cons 46 rfl rfl (sub_cons 47 rfl (eq_int (by simp)) (sub_nil _))))))))))) (next1 (i + 1, vf, vp, Cw10) _ ⟨(by first | omega | (simp only; omega)), hF, hT, he, (by simp only; rw [htk, List.filter_append, List.filter_cons, if_neg (by simpa using h54), List.filter_nil, List.append_nil]; exact hf), (by simp only; rw [htk, List.filter_append, List.filter_cons, if_neg (by simpa using h65), List.filter_nil, List.append_nil]; exact hp)⟩ (by first | omega | (simp only; omega)))
      · skip
        refine run_plain (id := 14) (ops := F9.o14) [(0, true), (1, false), (2, false), (3, false), (4, true)] (by kernel_rfl) (by kernel_rfl) ?_
        refine yS (by kernel_rfl : opAt F9.o14 0 = some (some 59, .move (.tmp 8), none)) rfl rfl (fun w' hS => val_move rfl) ?_
        refine nS (by kernel_rfl : opAt F9.o14 1 = some (some 60, .load 46 (.tmp 12), none)) rfl rfl trivial (val_loadOwnAgg (n := 3) (vs := encE (el[i]'hil)) hx.at_ (by kernel_rfl) (by kernel_rfl) rfl rfl rfl) ?_
        refine aS (by kernel_rfl : opAt F9.o14 2 = some (some 61, .buildSlice 23 1 #[(0, (.tmp 60))], none)) rfl rfl (a_buildSlice (ys := ([el[i]'hil] : List K.Edge)) (e := 46) (bytes := 24) hF (by kernel_rfl) rfl (by decide) (by decide) ⟨rfl, ⟨_, rfl, rv_edge.2 rfl⟩, trivial⟩) ?_
        rintro v61 w14 ⟨hs, g61, hF⟩
        refine ⟨trivial, ?_⟩
        replace hT := hT.trans hs (by simp)
        replace he := he.st hs (by first | decide | (simp <;> omega))
        replace hf := hf.st hs (by first | decide | (simp <;> omega)) (by first | decide | (simp <;> omega))
        replace hp := hp.st hs (by first | decide | (simp <;> omega)) (by first | decide | (simp <;> omega))
        replace h49 := h49.st hs (by first | decide | (simp <;> omega))
        replace hx := hx.st hs (by first | decide | (simp <;> omega))
        refine aS (by kernel_rfl : opAt F9.o14 3 = some (some 62, .call { callee := .builtin .append, args := #[(.tmp 59), (.tmp 61)], argTypes := #[23, 23] }, none)) rfl rfl (a_append (e := 46) (bytes := 24) hF (by decide) rfl rfl (by kernel_rfl) (by decide) hf g61 (by simp only [List.length_cons, List.length_nil]; omega) (by simp only [List.length_cons, List.length_nil]; omega)) ?_
        rintro v62 w15 ⟨Cw15, hs, hf, hF⟩
        refine ⟨trivial, ?_⟩
        replace hT := hT.trans hs (by simp)
        replace he := he.st hs (by first | decide | (simp <;> omega))
        replace hp := hp.st hs (by first | decide | (simp <;> omega)) (by first | decide | (simp <;> omega))
        replace h49 := h49.st hs (by first | decide | (simp <;> omega))
        replace hx := hx.st hs (by first | decide | (simp <;> omega))
        replace g61 := g61.st hs (by first | decide | (simp <;> omega))
        refine yS (by kernel_rfl : opAt F9.o14 4 = some (some 8, .assign (.tmp 62), none)) rfl rfl (fun w' hS => val_assign rfl) ?_
        refine Sch.nil ?_
        refine run_seq (x := F9.c44) (y := F9.c45) (by kernel_rfl) ?_
        refine run_plain (id := 15) (ops := F9.o15) [(0, true), (1, false), (2, true)] (by kernel_rfl) (by kernel_rfl) ?_
        refine yS (by kernel_rfl : opAt F9.o15 0 = some (some 63, .fieldAddr 46 (.tmp 12) 2, none)) rfl rfl (fun w' hS => val_fieldAddr (off := 2) (by kernel_rfl) rfl) ?_
        refine nS (by kernel_rfl : opAt F9.o15 1 = some (some 64, .load 3 (.tmp 63), none)) rfl rfl trivial (val_loadOwn hx.at_ (by kernel_rfl) rfl rfl) ?_
        refine yS (by kernel_rfl : opAt F9.o15 2 = some (some 65, .binOp .gtr 3 (.tmp 64) (.const (.int .i64 0)) 3, none)) rfl rfl (fun w' hS => val_gtr rfl rfl) ?_
        refine Sch.nil ?_
        refine run_if (x := F9.c46) (y := F9.c47) (o := .tmp 65) (by kernel_rfl) rfl (fun h65 => ?_) (fun h65 => ?_)
        · skip
          refine run_plain (id := 16) (ops := F9.o16) [(0, true), (1, false), (2, false), (3, false), (4, true)] (by kernel_rfl) (by kernel_rfl) ?_
          refine yS (by kernel_rfl : opAt F9.o16 0 = some (some 66, .move (.tmp 9), none)) rfl rfl (fun w' hS => val_move rfl) ?_
          refine nS (by kernel_rfl : opAt F9.o16 1 = some (some 67, .load 46 (.tmp 12), none)) rfl rfl trivial (val_loadOwnAgg (n := 3) (vs := encE (el[i]'hil)) hx.at_ (by kernel_rfl) (by kernel_rfl) rfl rfl rfl) ?_
          refine aS (by kernel_rfl : opAt F9.o16 2 = some (some 68, .buildSlice 23 1 #[(0, (.tmp 67))], none)) rfl rfl (a_buildSlice (ys := ([el[i]'hil] : List K.Edge)) (e := 46) (bytes := 24) hF (by kernel_rfl) rfl (by decide) (by decide) ⟨rfl, ⟨_, rfl, rv_edge.2 rfl⟩, trivial⟩) ?_
          rintro v68 w16 ⟨hs, g68, hF⟩
          refine ⟨trivial, ?_⟩
          replace hT := hT.trans hs (by simp)
          replace he := he.st hs (by first | decide | (simp <;> omega))
          replace hf := hf.st hs (by first | decide | (simp <;> omega)) (by first | decide | (simp <;> omega))
          replace hp := hp.st hs (by first | decide | (simp <;> omega)) (by first | decide | (simp <;> omega))
          replace h49 := h49.st hs (by first | decide | (simp <;> omega))
          replace hx := hx.st hs (by first | decide | (simp <;> omega))
          replace g61 := g61.st hs (by first | decide | (simp <;> omega))
          refine aS (by kernel_rfl : opAt F9.o16 3 = some (some 69, .call { callee := .builtin .append, args := #[(.tmp 66), (.tmp 68)], argTypes := #[23, 23] }, none)) rfl rfl (a_append (e := 46) (bytes := 24) hF (by decide) rfl rfl (by kernel_rfl) (by decide) hp g68 (by simp only [List.length_cons, List.length_nil]; omega) (by simp only [List.length_cons, List.length_nil]; omega)) ?_
          rintro v69 w17 ⟨Cw17, hs, hp, hF⟩
          refine ⟨trivial, ?_⟩
          replace hT := hT.trans hs (by simp)
          replace he := he.st hs (by first | decide | (simp <;> omega))
          replace hf := hf.st hs (by first | decide | (simp <;> omega)) (by first | decide | (simp <;> omega))
          replace h49 := h49.st hs (by first | decide | (simp <;> omega))
          replace hx := hx.st hs (by first | decide | (simp <;> omega))
          replace g61 := g61.st hs (by first | decide | (simp <;> omega))
          replace g68 := g68.st hs (by first | decide | (simp <;> omega))
          refine yS (by kernel_rfl : opAt F9.o16 4 = some (some 9, .assign (.tmp 69), none)) rfl rfl (fun w' hS => val_assign rfl) ?_
          refine Sch.nil ?_
          refine run_inBlock ?_
          refine run_plain (id := 17) (ops := F9.o17) [(0, true), (1, true)] (by kernel_rfl) (by kernel_rfl) ?_
          refine yS (by kernel_rfl : opAt F9.o17 0 = some (some 70, .binOp .add 3 (.tmp 47) (.const (.int .i64 1)) 3, none)) rfl rfl (fun w' hS => val_addi rfl rfl (by omega) (by omega)) ?_
          refine yS (by kernel_rfl : opAt F9.o17 1 = some (some 47, .move (.tmp 70), none)) rfl rfl (fun w' hS => val_move rfl) ?_
          refine Sch.nil ?_
          refine kp (sub_cons 4 rfl rfl (sub_cons 5 rfl rfl (sub_cons 6 rfl rfl (sub_cons 7 rfl rfl (sub_cons 8 rfl rfl (sub_cons 9 rfl rfl (sub_cons 10 rfl (eq_int (by unfold mostR; rw [foldl_take _ _ _ _ hil, if_neg h54])) (sub_cons 45 rfl rfl (sub_cons 46 rfl rfl (sub_cons 47 rfl (eq_int (by simp)) (sub_nil _))))))))))) (next1 (i + 1, v62, v69, Cw17) _ ⟨(by first | omega | (simp only; omega)), hF, hT, he, (by simp only; rw [htk, List.filter_append, List.filter_cons, if_pos (by simpa using h54), List.filter_nil]; exact hf), (by simp only; rw [htk, List.filter_append, List.filter_cons, if_pos (by simpa using h65), List.filter_nil]; exact hp)⟩ (by first | omega | (simp only; omega)))
        · skip
          refine run_skip (by kernel_rfl) ?_
          refine run_inBlock ?_
          refine run_plain (id := 17) (ops := F9.o17) [(0, true), (1, true)] (by kernel_rfl) (by kernel_rfl) ?_
          refine yS (by kernel_rfl : opAt F9.o17 0 = some (some 70, .binOp .add 3 (.tmp 47) (.const (.int .i64 1)) 3, none)) rfl rfl (fun w' hS => val_addi rfl rfl (by omega) (by omega)) ?_
          refine yS (by kernel_rfl : opAt F9.o17 1 = some (some 47, .move (.tmp 70), none)) rfl rfl (fun w' hS => val_move rfl) ?_
          refine Sch.nil ?_
          refine kp (sub_cons 4 rfl rfl (sub_cons 5 rfl rfl (sub_cons 6 rfl rfl (sub_cons 7 rfl rfl (sub_cons 8 rfl rfl (sub_cons 9 rfl rfl (sub_cons 10 rfl (eq_int (by unfold mostR; rw [foldl_take _ _ _ _ hil, if_neg h54])) (sub_cons 45 rfl rfl (sub_cons 46 rfl rfl (sub_cons 47 rfl (eq_int (by simp)) (sub_nil _))))))))))) (next1 (i + 1, v62, vp, Cw15) _ ⟨(by first | omega | (simp only; omega)), hF, hT, he, (by simp only; rw [htk, List.filter_append, List.filter_cons, if_pos (by simpa using h54), List.filter_nil]; exact hf), (by simp only; rw [htk, List.filter_append, List.filter_cons, if_neg (by simpa using h65), List.filter_nil, List.append_nil]; exact hp)⟩ (by first | omega | (simp only; omega)))
    · skip
      have hil : i = el.length := by omega
      rw [hil, List.take_length] at hf hp hlf hlp
      rw [hil, List.take_length]
      obtain ⟨fl, hfl⟩ : ∃ x, x = el.filter (fun x => decide (x.a ≠ (gone : Int))) := ⟨_, rfl⟩
      obtain ⟨pl, hpl⟩ : ∃ x, x = el.filter (fun x => decide (0 < x.w)) := ⟨_, rfl⟩
      rw [← hfl] at hf hlf
      rw [← hpl] at hp hlp
      replace hF := hF.frz 4
      replace hT := hT.frz (n := 4) (fun b => Nat.lt_of_lt_of_le (col1_lt2 C b) (by decide))
      replace he := he.frz 4
      have hf_ := hf.frz (n := 4) (by decide) (by omega)
      have hp_ := hp.frz (n := 4) (by decide) (by omega)
      replace hf := hf_
      clear hf_
      replace hp := hp_
      clear hp_
      have hcf : chkE n m fl = 0 := by rw [hfl]; exact hEV.filter.check
      have hcp : chkE n m pl = 0 := by rw [hpl]; exact hEV.filter.check
      obtain ⟨hl1, hl2⟩ := lone_law hEV hfl hcf
      have hpp := pos_positive hEV.ord
      rw [← hpl] at hpp
      have hpT : solT n m pl = solT n m el := by rw [solT_top hcp, solT_top hEc, hpp]
      have hpL : solL n m el = solL n m pl := by rw [solL_bst hcp, solL_bst hEc, hpp]
      refine run_exit (id := 0) (by kernel_rfl) rfl ?_
      refine run_seq (x := F9.c50) (y := F9.c51) (by kernel_rfl) ?_
      refine run_plain (id := 18) (ops := F9.o18) [(0, true), (1, true), (2, true), (3, false), (4, true), (5, true), (6, true), (7, true), (8, true), (9, true), (10, true)] (by kernel_rfl) (by kernel_rfl) ?_
      refine yS (by kernel_rfl : opAt F9.o18 0 = some (some 72, .move (.tmp 4), none)) rfl rfl (fun w' hS => val_move rfl) ?_
      refine yS (by kernel_rfl : opAt F9.o18 1 = some (some 73, .move (.tmp 5), none)) rfl rfl (fun w' hS => val_move rfl) ?_
      refine yS (by kernel_rfl : opAt F9.o18 2 = some (some 74, .move (.tmp 6), none)) rfl rfl (fun w' hS => val_move rfl) ?_
      refine cS (by kernel_rfl : opAt F9.o18 3 = some (some 75, .call { callee := .value (.func 19), args := #[(.tmp 72), (.tmp 73), (.tmp 74)], argTypes := #[3, 3, 23] }, none)) rfl rfl (ent Try.call19 rfl) (solve_ok (n := n) (m := m) (l := el) hF he) ?_
      rintro vw18 w18 ⟨u1, rfl, hs, hc1⟩
      refine ⟨trivial, ?_⟩
      replace hF := hF.st hs
      replace hT := hT.trans hs (by simp)
      replace he := he.st hs (by first | decide | (simp <;> omega))
      replace hf := hf.st hs (by first | decide | (simp <;> omega))
      replace hp := hp.st hs (by first | decide | (simp <;> omega))
      rw [hEc]
      refine yS (by kernel_rfl : opAt F9.o18 4 = some (some 71, .move (.tmp 75), none)) rfl rfl (fun w' hS => val_move rfl) ?_
      refine yS (by kernel_rfl : opAt F9.o18 5 = some (some 76, .extract (.tmp 71) 0, none)) rfl rfl (fun w' hS => val_extract rfl rfl) ?_
      refine yS (by kernel_rfl : opAt F9.o18 6 = some (some 77, .extract (.tmp 71) 1, none)) rfl rfl (fun w' hS => val_extract rfl rfl) ?_
      refine yS (by kernel_rfl : opAt F9.o18 7 = some (some 78, .extract (.tmp 71) 2, none)) rfl rfl (fun w' hS => val_extract rfl rfl) ?_
      refine yS (by kernel_rfl : opAt F9.o18 8 = some (some 13, .assign (.tmp 76), none)) rfl rfl (fun w' hS => val_assign rfl) ?_
      refine yS (by kernel_rfl : opAt F9.o18 9 = some (some 14, .assign (.tmp 77), none)) rfl rfl (fun w' hS => val_assign rfl) ?_
      refine yS (by kernel_rfl : opAt F9.o18 10 = some (some 15, .assign (.tmp 78), none)) rfl rfl (fun w' hS => val_assign rfl) ?_
      refine Sch.nil ?_
      refine run_seq (x := F9.c52) (y := F9.c53) (by kernel_rfl) ?_
      refine run_plain (id := 19) (ops := F9.o19) [(0, true), (1, true), (2, true), (3, false), (4, true), (5, true), (6, true), (7, true), (8, true), (9, true), (10, true)] (by kernel_rfl) (by kernel_rfl) ?_
      refine yS (by kernel_rfl : opAt F9.o19 0 = some (some 80, .move (.tmp 4), none)) rfl rfl (fun w' hS => val_move rfl) ?_
      refine yS (by kernel_rfl : opAt F9.o19 1 = some (some 81, .move (.tmp 5), none)) rfl rfl (fun w' hS => val_move rfl) ?_
      refine yS (by kernel_rfl : opAt F9.o19 2 = some (some 82, .move (.tmp 8), none)) rfl rfl (fun w' hS => val_move rfl) ?_
      refine cS (by kernel_rfl : opAt F9.o19 3 = some (some 83, .call { callee := .value (.func 19), args := #[(.tmp 80), (.tmp 81), (.tmp 82)], argTypes := #[3, 3, 23] }, none)) rfl rfl (ent Try.call19 rfl) (solve_ok (n := n) (m := m) (l := fl) hF hf) ?_
      rintro vw19 w19 ⟨u2, rfl, hs, hc2⟩
      refine ⟨trivial, ?_⟩
      replace hF := hF.st hs
      replace hT := hT.trans hs (by simp)
      replace he := he.st hs (by first | decide | (simp <;> omega))
      replace hf := hf.st hs (by first | decide | (simp <;> omega))
      replace hp := hp.st hs (by first | decide | (simp <;> omega))
      replace hc1 := hc1.st hs (by first | decide | (simp <;> omega))
      rw [hcf]
      refine yS (by kernel_rfl : opAt F9.o19 4 = some (some 79, .move (.tmp 83), none)) rfl rfl (fun w' hS => val_move rfl) ?_
      refine yS (by kernel_rfl : opAt F9.o19 5 = some (some 84, .extract (.tmp 79) 0, none)) rfl rfl (fun w' hS => val_extract rfl rfl) ?_
      refine yS (by kernel_rfl : opAt F9.o19 6 = some (some 85, .extract (.tmp 79) 1, none)) rfl rfl (fun w' hS => val_extract rfl rfl) ?_
      refine yS (by kernel_rfl : opAt F9.o19 7 = some (some 86, .extract (.tmp 79) 2, none)) rfl rfl (fun w' hS => val_extract rfl rfl) ?_
      refine yS (by kernel_rfl : opAt F9.o19 8 = some (some 16, .assign (.tmp 84), none)) rfl rfl (fun w' hS => val_assign rfl) ?_
      refine yS (by kernel_rfl : opAt F9.o19 9 = some (some 17, .assign (.tmp 85), none)) rfl rfl (fun w' hS => val_assign rfl) ?_
      refine yS (by kernel_rfl : opAt F9.o19 10 = some (some 18, .assign (.tmp 86), none)) rfl rfl (fun w' hS => val_assign rfl) ?_
      refine Sch.nil ?_
      refine run_seq (x := F9.c54) (y := F9.c55) (by kernel_rfl) ?_
      refine run_plain (id := 20) (ops := F9.o20) [(0, true), (1, true), (2, true), (3, false), (4, true), (5, true), (6, true), (7, true), (8, true), (9, true), (10, true)] (by kernel_rfl) (by kernel_rfl) ?_
      refine yS (by kernel_rfl : opAt F9.o20 0 = some (some 88, .move (.tmp 4), none)) rfl rfl (fun w' hS => val_move rfl) ?_
      refine yS (by kernel_rfl : opAt F9.o20 1 = some (some 89, .move (.tmp 5), none)) rfl rfl (fun w' hS => val_move rfl) ?_
      refine yS (by kernel_rfl : opAt F9.o20 2 = some (some 90, .move (.tmp 9), none)) rfl rfl (fun w' hS => val_move rfl) ?_
      refine cS (by kernel_rfl : opAt F9.o20 3 = some (some 91, .call { callee := .value (.func 19), args := #[(.tmp 88), (.tmp 89), (.tmp 90)], argTypes := #[3, 3, 23] }, none)) rfl rfl (ent Try.call19 rfl) (solve_ok (n := n) (m := m) (l := pl) hF hp) ?_
      rintro vw20 w20 ⟨u3, rfl, hs, hc3⟩
      refine ⟨trivial, ?_⟩
      replace hF := hF.st hs
      replace hT := hT.trans hs (by simp)
      replace he := he.st hs (by first | decide | (simp <;> omega))
      replace hf := hf.st hs (by first | decide | (simp <;> omega))
      replace hp := hp.st hs (by first | decide | (simp <;> omega))
      replace hc1 := hc1.st hs (by first | decide | (simp <;> omega))
      replace hc2 := hc2.st hs (by first | decide | (simp <;> omega))
      rw [hcp]
      refine yS (by kernel_rfl : opAt F9.o20 4 = some (some 87, .move (.tmp 91), none)) rfl rfl (fun w' hS => val_move rfl) ?_
      refine yS (by kernel_rfl : opAt F9.o20 5 = some (some 92, .extract (.tmp 87) 0, none)) rfl rfl (fun w' hS => val_extract rfl rfl) ?_
      refine yS (by kernel_rfl : opAt F9.o20 6 = some (some 93, .extract (.tmp 87) 1, none)) rfl rfl (fun w' hS => val_extract rfl rfl) ?_
      refine yS (by kernel_rfl : opAt F9.o20 7 = some (some 94, .extract (.tmp 87) 2, none)) rfl rfl (fun w' hS => val_extract rfl rfl) ?_
      refine yS (by kernel_rfl : opAt F9.o20 8 = some (some 19, .assign (.tmp 92), none)) rfl rfl (fun w' hS => val_assign rfl) ?_
      refine yS (by kernel_rfl : opAt F9.o20 9 = some (some 20, .assign (.tmp 93), none)) rfl rfl (fun w' hS => val_assign rfl) ?_
      refine yS (by kernel_rfl : opAt F9.o20 10 = some (some 21, .assign (.tmp 94), none)) rfl rfl (fun w' hS => val_assign rfl) ?_
      refine Sch.nil ?_
      have hb1 := solT_bnd hEc
      have hb2 := solT_bnd hcf
      have hb3 := mostR_bnd (a := (gone : Int)) (fun x hx => (hEV.ok x hx).2.2)
      refine run_seq (x := F9.c56) (y := F9.c57) (by kernel_rfl) ?_
      refine run_plain (id := 21) (ops := F9.o21) [(0, true), (1, true), (2, true), (3, true), (4, true), (5, true), (6, true), (7, true), (8, true), (9, true), (10, true), (11, true), (12, true), (13, true), (14, true), (15, true), (16, true), (17, true), (18, true), (19, true), (20, true), (21, true), (22, true), (23, true), (24, true), (25, true), (26, true), (27, true), (28, true), (29, true), (30, false), (31, true), (32, true)] (by kernel_rfl) (by kernel_rfl) ?_
      refine yS (by kernel_rfl : opAt F9.o21 0 = some (some 95, .move (.tmp 15), none)) rfl rfl (fun w' hS => val_move rfl) ?_
      refine yS (by kernel_rfl : opAt F9.o21 1 = some (some 96, .binOp .eql 35 (.tmp 95) (.const (.int .i64 0)) 35, none)) rfl rfl (fun w' hS => val_is (val_eql rfl rfl) (show _ = Value.bool true from congrArg Value.bool (decide_eq_true (rfl)))) ?_
      refine yS (by kernel_rfl : opAt F9.o21 2 = some (some 97, .move (.tmp 96), none)) rfl rfl (fun w' hS => val_move rfl) ?_
      refine yS (by kernel_rfl : opAt F9.o21 3 = some (some 98, .move (.tmp 18), (some (2, true)))) rfl rfl (fun w' hS => val_move rfl) ?_
      refine yS (by kernel_rfl : opAt F9.o21 4 = some (some 99, .binOp .eql 35 (.tmp 98) (.const (.int .i64 0)) 35, (some (2, true)))) rfl rfl (fun w' hS => val_is (val_eql rfl rfl) (show _ = Value.bool true from congrArg Value.bool (decide_eq_true (rfl)))) ?_
      refine yS (by kernel_rfl : opAt F9.o21 5 = some (some 100, .pick (.tmp 97) (.tmp 99) (.const (.bool false)), none)) rfl rfl (fun w' hS => val_pick_t rfl rfl) ?_
      refine yS (by kernel_rfl : opAt F9.o21 6 = some (some 101, .move (.tmp 100), none)) rfl rfl (fun w' hS => val_move rfl) ?_
      refine yS (by kernel_rfl : opAt F9.o21 7 = some (some 102, .move (.tmp 21), (some (6, true)))) rfl rfl (fun w' hS => val_move rfl) ?_
      refine yS (by kernel_rfl : opAt F9.o21 8 = some (some 103, .binOp .eql 35 (.tmp 102) (.const (.int .i64 0)) 35, (some (6, true)))) rfl rfl (fun w' hS => val_is (val_eql rfl rfl) (show _ = Value.bool true from congrArg Value.bool (decide_eq_true (rfl)))) ?_
      refine yS (by kernel_rfl : opAt F9.o21 9 = some (some 104, .pick (.tmp 101) (.tmp 103) (.const (.bool false)), none)) rfl rfl (fun w' hS => val_pick_t rfl rfl) ?_
      refine yS (by kernel_rfl : opAt F9.o21 10 = some (some 105, .move (.tmp 104), none)) rfl rfl (fun w' hS => val_move rfl) ?_
      refine yS (by kernel_rfl : opAt F9.o21 11 = some (some 106, .move (.tmp 17), (some (10, true)))) rfl rfl (fun w' hS => val_move rfl) ?_
      refine yS (by kernel_rfl : opAt F9.o21 12 = some (some 107, .move (.tmp 14), (some (10, true)))) rfl rfl (fun w' hS => val_move rfl) ?_
      refine yS (by kernel_rfl : opAt F9.o21 13 = some (some 108, .binOp .leq 3 (.tmp 106) (.tmp 107) 3, (some (10, true)))) rfl rfl (fun w' hS => val_is (val_leq rfl rfl) (show _ = Value.bool true from congrArg Value.bool (decide_eq_true (by omega)))) ?_
      refine yS (by kernel_rfl : opAt F9.o21 14 = some (some 109, .pick (.tmp 105) (.tmp 108) (.const (.bool false)), none)) rfl rfl (fun w' hS => val_pick_t rfl rfl) ?_
      refine yS (by kernel_rfl : opAt F9.o21 15 = some (some 110, .move (.tmp 109), none)) rfl rfl (fun w' hS => val_move rfl) ?_
      refine yS (by kernel_rfl : opAt F9.o21 16 = some (some 111, .move (.tmp 14), (some (15, true)))) rfl rfl (fun w' hS => val_move rfl) ?_
      refine yS (by kernel_rfl : opAt F9.o21 17 = some (some 112, .move (.tmp 17), (some (15, true)))) rfl rfl (fun w' hS => val_move rfl) ?_
      refine yS (by kernel_rfl : opAt F9.o21 18 = some (some 113, .move (.tmp 10), (some (15, true)))) rfl rfl (fun w' hS => val_move rfl) ?_
      refine yS (by kernel_rfl : opAt F9.o21 19 = some (some 114, .binOp .add 3 (.tmp 112) (.tmp 113) 3, (some (15, true)))) rfl rfl (fun w' hS => val_addi rfl rfl (by omega) (by omega)) ?_
      refine yS (by kernel_rfl : opAt F9.o21 20 = some (some 115, .binOp .leq 3 (.tmp 111) (.tmp 114) 3, (some (15, true)))) rfl rfl (fun w' hS => val_is (val_leq rfl rfl) (show _ = Value.bool true from congrArg Value.bool (decide_eq_true (by omega)))) ?_
      refine yS (by kernel_rfl : opAt F9.o21 21 = some (some 116, .pick (.tmp 110) (.tmp 115) (.const (.bool false)), none)) rfl rfl (fun w' hS => val_pick_t rfl rfl) ?_
      refine yS (by kernel_rfl : opAt F9.o21 22 = some (some 117, .move (.tmp 116), none)) rfl rfl (fun w' hS => val_move rfl) ?_
      refine yS (by kernel_rfl : opAt F9.o21 23 = some (some 118, .move (.tmp 20), (some (22, true)))) rfl rfl (fun w' hS => val_move rfl) ?_
      refine yS (by kernel_rfl : opAt F9.o21 24 = some (some 119, .move (.tmp 14), (some (22, true)))) rfl rfl (fun w' hS => val_move rfl) ?_
      refine yS (by kernel_rfl : opAt F9.o21 25 = some (some 120, .binOp .eql 3 (.tmp 118) (.tmp 119) 3, (some (22, true)))) rfl rfl (fun w' hS => val_is (val_eql rfl rfl) (show _ = Value.bool true from congrArg Value.bool (decide_eq_true (by omega)))) ?_
      refine yS (by kernel_rfl : opAt F9.o21 26 = some (some 121, .pick (.tmp 117) (.tmp 120) (.const (.bool false)), none)) rfl rfl (fun w' hS => val_pick_t rfl rfl) ?_
      refine yS (by kernel_rfl : opAt F9.o21 27 = some (some 122, .move (.tmp 121), none)) rfl rfl (fun w' hS => val_move rfl) ?_
      refine yS (by kernel_rfl : opAt F9.o21 28 = some (some 123, .move (.tmp 13), (some (27, true)))) rfl rfl (fun w' hS => val_move rfl) ?_
      refine yS (by kernel_rfl : opAt F9.o21 29 = some (some 124, .move (.tmp 19), (some (27, true)))) rfl rfl (fun w' hS => val_move rfl) ?_
      refine cS (by kernel_rfl : opAt F9.o21 30 = some (some 125, .call { callee := .value (.func 21), args := #[(.tmp 123), (.tmp 124)], argTypes := #[24, 24] }, (some (27, true)))) rfl rfl (ent Try.call21 rfl) (same_ok hF hc1 hc3) ?_
      rintro vw21 w21 ⟨rfl, hs⟩
      rw [decide_eq_true hpL]
      refine ⟨trivial, ?_⟩
      replace hF := hF.st hs
      replace hT := hT.trans hs (by simp)
      replace he := he.st hs (by first | decide | (simp <;> omega))
      replace hf := hf.st hs (by first | decide | (simp <;> omega))
      replace hp := hp.st hs (by first | decide | (simp <;> omega))
      replace hc1 := hc1.st hs (by first | decide | (simp <;> omega))
      replace hc2 := hc2.st hs (by first | decide | (simp <;> omega))
      replace hc3 := hc3.st hs (by first | decide | (simp <;> omega))
      refine yS (by kernel_rfl : opAt F9.o21 31 = some (some 126, .pick (.tmp 122) (.tmp 125) (.const (.bool false)), none)) rfl rfl (fun w' hS => val_pick_t rfl rfl) ?_
      refine yS (by kernel_rfl : opAt F9.o21 32 = some (some 2, .assign (.tmp 126), none)) rfl rfl (fun w' hS => val_assign rfl) ?_
      refine Sch.nil ?_
      refine run_ret1 (by kernel_rfl) Try.func9 Try.results9 rfl ?_
      exact ⟨rfl, hT.out1 (by decide)⟩
namespace F9B
noncomputable def c0 : Code := bodyOf Try.f9
noncomputable def c1 : Code := cl c0
noncomputable def o0 : Array Oper := rops c1
noncomputable def c2 : Code := cr c0
noncomputable def c3 : Code := cl c2
noncomputable def c4 : Code := cl c3
noncomputable def o1 : Array Oper := rops c4
noncomputable def c5 : Code := cr c3
noncomputable def c6 : Code := cl c5
noncomputable def c7 : Code := cl c6
noncomputable def o2 : Array Oper := rops c7
noncomputable def c8 : Code := cr c6
noncomputable def c9 : Code := cr c5
noncomputable def c10 : Code := cr c2
noncomputable def c11 : Code := cl c10
noncomputable def o3 : Array Oper := rops c11
noncomputable def c12 : Code := cr c10
noncomputable def c13 : Code := cl c12
noncomputable def o4 : Array Oper := rops c13
noncomputable def c14 : Code := cr c12
noncomputable def c15 : Code := cl c14
noncomputable def o5 : Array Oper := rops c15
noncomputable def c16 : Code := cr c14
noncomputable def c17 : Code := cl c16
noncomputable def o6 : Array Oper := rops c17
noncomputable def c18 : Code := cr c16
noncomputable def c19 : Code := cl c18
noncomputable def o7 : Array Oper := rops c19
noncomputable def c20 : Code := cr c18
noncomputable def c21 : Code := cl c20
noncomputable def o8 : Array Oper := rops c21
noncomputable def c22 : Code := cr c20
noncomputable def c23 : Code := cl c22
noncomputable def c24 : Code := cl c23
noncomputable def o9 : Array Oper := rops c24
noncomputable def c25 : Code := cr c23
noncomputable def c26 : Code := cl c25
noncomputable def c27 : Code := cl c26
noncomputable def c28 : Code := cl c27
noncomputable def o10 : Array Oper := rops c28
noncomputable def c29 : Code := cr c27
noncomputable def c30 : Code := cl c29
noncomputable def c31 : Code := cl c30
noncomputable def c32 : Code := cr c30
noncomputable def c33 : Code := cr c29
noncomputable def c34 : Code := cl c33
noncomputable def c35 : Code := cl c34
noncomputable def c36 : Code := cl c35
noncomputable def o11 : Array Oper := rops c36
noncomputable def c37 : Code := cr c35
noncomputable def c38 : Code := cl c37
noncomputable def c39 : Code := cl c38
noncomputable def o12 : Array Oper := rops c39
noncomputable def c40 : Code := cr c38
noncomputable def c41 : Code := cl c40
noncomputable def o13 : Array Oper := rops c41
noncomputable def c42 : Code := cr c40
noncomputable def o14 : Array Oper := rops c42
noncomputable def c43 : Code := cr c37
noncomputable def c44 : Code := cl c43
noncomputable def o15 : Array Oper := rops c44
noncomputable def c45 : Code := cr c43
noncomputable def c46 : Code := cl c45
noncomputable def o16 : Array Oper := rops c46
noncomputable def c47 : Code := cr c45
noncomputable def c48 : Code := cr c33
noncomputable def o17 : Array Oper := rops c48
noncomputable def c49 : Code := cr c22
noncomputable def c50 : Code := cl c49
noncomputable def o18 : Array Oper := rops c50
noncomputable def c51 : Code := cr c49
noncomputable def c52 : Code := cl c51
noncomputable def o19 : Array Oper := rops c52
noncomputable def c53 : Code := cr c51
noncomputable def c54 : Code := cl c53
noncomputable def o20 : Array Oper := rops c54
noncomputable def c55 : Code := cr c53
noncomputable def c56 : Code := cl c55
noncomputable def o21 : Array Oper := rops c56
noncomputable def c57 : Code := cr c55
end F9B
/-- .. where more is handed than it looks at. -/
theorem assignmentLone_big {w₀ : World} {C : Nat → Nat} {p : Option Addr} {n c : Nat} (hF : Lim w₀ C) (hn : 400 < n) : Calls Try.prog 9 #[.slice p n c] w₀ (Ret fun v w' => v = .bool true ∧ Stp [] w₀ C w' C) := by
  have hF0 := hF
  have hT := Stp.refl [2, 3, 4, 5, 6, 7, 8, 9] w₀ (col1 C)
  replace hF := hF.col1
  refine calls_start (c := F9B.c0) (N := 127) [.slice p n c] Try.func9 (by kernel_rfl) (by kernel_rfl) (by kernel_rfl) ?_
  show Run _ _ _ _ [(0, .slice p n c)] _ _
  refine run_seq (x := F9B.c1) (y := F9B.c2) (by kernel_rfl) ?_
  refine run_plain (id := 0) (ops := F9B.o0) [(0, true)] (by kernel_rfl) (by kernel_rfl) ?_
  refine yS (by kernel_rfl : opAt F9B.o0 0 = some (some 2, .assign (.const (.bool false)), none)) rfl rfl (fun w' hS => val_assign rfl) ?_
  refine Sch.nil ?_
  refine run_seq (x := F9B.c3) (y := F9B.c10) (by kernel_rfl) ?_
  refine run_seq (x := F9B.c4) (y := F9B.c5) (by kernel_rfl) ?_
  refine run_plain (id := 1) (ops := F9B.o1) [(0, false), (1, true), (2, true), (3, true), (4, false), (5, true), (6, true)] (by kernel_rfl) (by kernel_rfl) ?_
  refine cS (by kernel_rfl : opAt F9B.o1 0 = some (some 22, .call { callee := .value (.func 10), args := #[], argTypes := #[] }, none)) rfl rfl (ent Try.call10 rfl) (awake_ok hF) ?_
  rintro vw1 w1 ⟨rfl, hs⟩
  refine ⟨trivial, ?_⟩
  replace hF := hF.st hs
  replace hT := hT.trans hs (by simp)
  refine yS (by kernel_rfl : opAt F9B.o1 1 = some (some 23, .unOp .not 4 (.tmp 22), none)) rfl rfl (fun w' hS => val_not rfl) ?_
  refine yS (by kernel_rfl : opAt F9B.o1 2 = some (some 24, .move (.tmp 23), none)) rfl rfl (fun w' hS => val_move rfl) ?_
  refine yS (by kernel_rfl : opAt F9B.o1 3 = some (some 25, .move (.tmp 0), (some (2, false)))) rfl rfl (fun w' hS => val_move rfl) ?_
  refine cS (by kernel_rfl : opAt F9B.o1 4 = some (some 26, .call { callee := .value (.func 11), args := #[(.tmp 25)], argTypes := #[22] }, (some (2, false)))) rfl rfl (ent Try.call11 rfl) (few_ok _ _ _ _) ?_
  rintro vw2 w2 ⟨rfl, rfl⟩
  refine ⟨trivial, ?_⟩
  rw [decide_eq_false (show ¬ (n : Int) ≤ 400 by omega)]
  refine yS (by kernel_rfl : opAt F9B.o1 5 = some (some 27, .unOp .not 4 (.tmp 26), (some (2, false)))) rfl rfl (fun w' hS => val_not rfl) ?_
  refine yS (by kernel_rfl : opAt F9B.o1 6 = some (some 28, .pick (.tmp 24) (.const (.bool true)) (.tmp 27), none)) rfl rfl (fun w' hS => val_pick_f rfl rfl) ?_
  refine Sch.nil ?_
  refine run_cond (x := F9B.c6) (y := F9B.c9) (o := .tmp 28) (b := true) (by kernel_rfl) rfl (fun _ => ?_) (fun h => by cases h)
  refine run_seq (x := F9B.c7) (y := F9B.c8) (by kernel_rfl) ?_
  refine run_plain (id := 2) (ops := F9B.o2) [(0, false), (1, true)] (by kernel_rfl) (by kernel_rfl) ?_
  refine cS (by kernel_rfl : opAt F9B.o2 0 = some (some 29, .call { callee := .value (.func 10), args := #[], argTypes := #[] }, none)) rfl rfl (ent Try.call10 rfl) (awake_ok hF) ?_
  rintro vw3 w3 ⟨rfl, hs⟩
  refine ⟨trivial, ?_⟩
  replace hF := hF.st hs
  replace hT := hT.trans hs (by simp)
  refine yS (by kernel_rfl : opAt F9B.o2 1 = some (some 2, .assign (.tmp 29), none)) rfl rfl (fun w' hS => val_assign rfl) ?_
  refine Sch.nil ?_
  refine run_ret1 (by kernel_rfl) Try.func9 Try.results9 rfl ?_
  exact ⟨rfl, hT.out1 (by decide)⟩
end Go.Proofs.Ytgooehopkmbkfaa
