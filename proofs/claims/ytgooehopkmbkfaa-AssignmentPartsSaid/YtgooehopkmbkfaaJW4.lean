/- Steps through functions of the program. -/
import Derived.Test.YtgooehopkmbkfaaJV3
import Derived.Test.YtgooehopkmbkfaaL2
set_option linter.unusedVariables false
set_option linter.unusedSimpArgs false
set_option maxRecDepth 100000
set_option maxHeartbeats 4000000
namespace Go.Proofs.Ytgooehopkmbkfaa
open Go.K Go.K.Rep

namespace F8
noncomputable def c0 : Code := bodyOf Try.f8
noncomputable def c1 : Code := cl c0
noncomputable def o0 : Array Oper := rops c1
noncomputable def c2 : Code := cr c0
noncomputable def c3 : Code := cl c2
noncomputable def c4 : Code := cl c3
noncomputable def o1 : Array Oper := rops c4
noncomputable def c5 : Code := cr c3
noncomputable def c6 : Code := cl c5
noncomputable def c7 : Code := cl c6
noncomputable def o2 : Array Oper := rops c7
noncomputable def c8 : Code := cr c6
noncomputable def c9 : Code := cr c5
noncomputable def c10 : Code := cr c2
noncomputable def c11 : Code := cl c10
noncomputable def o3 : Array Oper := rops c11
noncomputable def c12 : Code := cr c10
noncomputable def c13 : Code := cl c12
noncomputable def o4 : Array Oper := rops c13
noncomputable def c14 : Code := cr c12
noncomputable def c15 : Code := cl c14
noncomputable def o5 : Array Oper := rops c15
noncomputable def c16 : Code := cr c14
noncomputable def c17 : Code := cl c16
noncomputable def o6 : Array Oper := rops c17
noncomputable def c18 : Code := cr c16
noncomputable def c19 : Code := cl c18
noncomputable def c20 : Code := cl c19
noncomputable def o7 : Array Oper := rops c20
noncomputable def c21 : Code := cr c19
noncomputable def c22 : Code := cl c21
noncomputable def c23 : Code := cl c22
noncomputable def c24 : Code := cl c23
noncomputable def o8 : Array Oper := rops c24
noncomputable def c25 : Code := cr c23
noncomputable def c26 : Code := cl c25
noncomputable def c27 : Code := cl c26
noncomputable def c28 : Code := cr c26
noncomputable def c29 : Code := cr c25
noncomputable def c30 : Code := cl c29
noncomputable def c31 : Code := cl c30
noncomputable def c32 : Code := cl c31
noncomputable def o9 : Array Oper := rops c32
noncomputable def c33 : Code := cr c31
noncomputable def o10 : Array Oper := rops c33
noncomputable def c34 : Code := cr c29
noncomputable def o11 : Array Oper := rops c34
noncomputable def c35 : Code := cr c18
noncomputable def c36 : Code := cl c35
noncomputable def o12 : Array Oper := rops c36
noncomputable def c37 : Code := cr c35
noncomputable def c38 : Code := cl c37
noncomputable def o13 : Array Oper := rops c38
noncomputable def c39 : Code := cr c37
noncomputable def c40 : Code := cl c39
noncomputable def o14 : Array Oper := rops c40
noncomputable def c41 : Code := cr c39
noncomputable def c42 : Code := cl c41
noncomputable def o15 : Array Oper := rops c42
noncomputable def c43 : Code := cr c41
noncomputable def c44 : Code := cl c43
noncomputable def c45 : Code := cl c44
noncomputable def o16 : Array Oper := rops c45
noncomputable def c46 : Code := cr c44
noncomputable def c47 : Code := cl c46
noncomputable def c48 : Code := cl c47
noncomputable def c49 : Code := cl c48
noncomputable def o17 : Array Oper := rops c49
noncomputable def c50 : Code := cr c48
noncomputable def c51 : Code := cl c50
noncomputable def c52 : Code := cl c51
noncomputable def c53 : Code := cr c51
noncomputable def c54 : Code := cr c50
noncomputable def c55 : Code := cl c54
noncomputable def c56 : Code := cl c55
noncomputable def c57 : Code := cl c56
noncomputable def o18 : Array Oper := rops c57
noncomputable def c58 : Code := cr c56
noncomputable def o19 : Array Oper := rops c58
noncomputable def c59 : Code := cr c54
noncomputable def o20 : Array Oper := rops c59
noncomputable def c60 : Code := cr c43
noncomputable def c61 : Code := cl c60
noncomputable def o21 : Array Oper := rops c61
noncomputable def c62 : Code := cr c60
end F8
/-- Two parts without an edge between them are solved by themselves. -/
theorem assignmentParts_ok {w₀ : World} {C : Nat → Nat} {l : List Int} {vl : Value} (hF : Lim w₀ C) (hl : RV w₀ (Mc C) l vl) : Calls Try.prog 8 #[vl] w₀ (Ret fun v w' => v = .bool true ∧ Stp [] w₀ C w' C) := by
  have hF0 := hF
  have hT := Stp.refl [2, 3, 4, 5, 6, 7, 8, 9] w₀ (col1 C)
  replace hF := hF.col1
  replace hl : RV w₀ (Mc (col1 C)) l vl := by rw [Mc_col1]; exact hl
  refine calls_start (c := F8.c0) (N := 139) [vl] Try.func8 (by kernel_rfl) (by kernel_rfl) (by kernel_rfl) ?_
  show Run _ _ _ _ [(0, vl)] _ _
  refine run_seq (x := F8.c1) (y := F8.c2) (by kernel_rfl) ?_
  refine run_plain (id := 0) (ops := F8.o0) [(0, true)] (by kernel_rfl) (by kernel_rfl) ?_
  refine yS (by kernel_rfl : opAt F8.o0 0 = some (some 2, .assign (.const (.bool false)), none)) rfl rfl (fun w' hS => val_assign rfl) ?_
  refine Sch.nil ?_
  refine run_seq (x := F8.c3) (y := F8.c10) (by kernel_rfl) ?_
  refine run_seq (x := F8.c4) (y := F8.c5) (by kernel_rfl) ?_
  refine run_plain (id := 1) (ops := F8.o1) [(0, false), (1, true), (2, true), (3, true), (4, false), (5, true), (6, true)] (by kernel_rfl) (by kernel_rfl) ?_
  refine cS (by kernel_rfl : opAt F8.o1 0 = some (some 23, .call { callee := .value (.func 10), args := #[], argTypes := #[] }, none)) rfl rfl (ent Try.call10 rfl) (awake_ok hF) ?_
  rintro vw1 w1 ⟨rfl, hs⟩
  refine ⟨trivial, ?_⟩
  replace hF := hF.st hs
  replace hT := hT.trans hs (by simp)
  replace hl := hl.st hs (by first | decide | (simp <;> omega))
  refine yS (by kernel_rfl : opAt F8.o1 1 = some (some 24, .unOp .not 4 (.tmp 23), none)) rfl rfl (fun w' hS => val_not rfl) ?_
  refine yS (by kernel_rfl : opAt F8.o1 2 = some (some 25, .move (.tmp 24), none)) rfl rfl (fun w' hS => val_move rfl) ?_
  refine yS (by kernel_rfl : opAt F8.o1 3 = some (some 26, .move (.tmp 0), (some (2, false)))) rfl rfl (fun w' hS => val_move rfl) ?_
  refine cS (by kernel_rfl : opAt F8.o1 4 = some (some 27, .call { callee := .value (.func 11), args := #[(.tmp 26)], argTypes := #[22] }, (some (2, false)))) rfl rfl (ent Try.call11 rfl) (few_any hl) ?_
  rintro vw2 w2 ⟨rfl, rfl⟩
  refine ⟨trivial, ?_⟩
  refine yS (by kernel_rfl : opAt F8.o1 5 = some (some 28, .unOp .not 4 (.tmp 27), (some (2, false)))) rfl rfl (fun w' hS => val_notd rfl) ?_
  refine yS (by kernel_rfl : opAt F8.o1 6 = some (some 29, .pick (.tmp 25) (.const (.bool true)) (.tmp 28), none)) rfl rfl (fun w' hS => val_pick_f rfl rfl) ?_
  refine Sch.nil ?_
  refine run_if (x := F8.c6) (y := F8.c9) (o := .tmp 29) (by kernel_rfl) rfl (fun h29 => ?_) (fun h29 => ?_)
  · skip
    refine run_seq (x := F8.c7) (y := F8.c8) (by kernel_rfl) ?_
    refine run_plain (id := 2) (ops := F8.o2) [(0, false), (1, true)] (by kernel_rfl) (by kernel_rfl) ?_
    refine cS (by kernel_rfl : opAt F8.o2 0 = some (some 30, .call { callee := .value (.func 10), args := #[], argTypes := #[] }, none)) rfl rfl (ent Try.call10 rfl) (awake_ok hF) ?_
    rintro vw3 w3 ⟨rfl, hs⟩
    refine ⟨trivial, ?_⟩
    replace hF := hF.st hs
    replace hT := hT.trans hs (by simp)
    replace hl := hl.st hs (by first | decide | (simp <;> omega))
    refine yS (by kernel_rfl : opAt F8.o2 1 = some (some 2, .assign (.tmp 30), none)) rfl rfl (fun w' hS => val_assign rfl) ?_
    refine Sch.nil ?_
    refine run_ret1 (by kernel_rfl) Try.func8 Try.results8 rfl ?_
    exact ⟨rfl, hT.out1 (by decide)⟩
  · skip
    refine run_skip (by kernel_rfl) ?_
    refine run_seq (x := F8.c11) (y := F8.c12) (by kernel_rfl) ?_
    refine run_plain (id := 3) (ops := F8.o3) [(0, true), (1, false), (2, true)] (by kernel_rfl) (by kernel_rfl) ?_
    refine yS (by kernel_rfl : opAt F8.o3 0 = some (some 31, .move (.tmp 0), none)) rfl rfl (fun w' hS => val_move rfl) ?_
    refine cS (by kernel_rfl : opAt F8.o3 1 = some (some 32, .call { callee := .value (.func 12), args := #[(.tmp 31)], argTypes := #[22] }, none)) rfl rfl (ent Try.call12 rfl) (new_any hF hl) ?_
    rintro vw4 w4 ⟨Cd, bd, rfl, hs, hF, hd⟩
    refine ⟨trivial, ?_⟩
    replace hT := hT.trans hs (by simp)
    replace hl := hl.st hs (by first | decide | (simp <;> omega))
    refine yS (by kernel_rfl : opAt F8.o3 2 = some (some 3, .assign (.tmp 32), none)) rfl rfl (fun w' hS => val_assign rfl) ?_
    refine Sch.nil ?_
    refine run_seq (x := F8.c13) (y := F8.c14) (by kernel_rfl) ?_
    refine run_plain (id := 4) (ops := F8.o4) [(0, true), (1, false), (2, true), (3, true), (4, false), (5, true), (6, true), (7, true)] (by kernel_rfl) (by kernel_rfl) ?_
    refine yS (by kernel_rfl : opAt F8.o4 0 = some (some 33, .move (.tmp 3), none)) rfl rfl (fun w' hS => val_move rfl) ?_
    refine cS (by kernel_rfl : opAt F8.o4 1 = some (some 34, .call { callee := .value (.func 13), args := #[(.tmp 33), (.const (.int .i64 4))], argTypes := #[27, 3] }, none)) rfl rfl (ent Try.call13 rfl) (next_any (n := 4) hF (by decide) hd (by omega) (by omega)) ?_
    rintro vw5 w5 ⟨p, rfl, hp, hs, hd⟩
    refine ⟨trivial, ?_⟩
    replace hF := hF.st hs
    replace hT := hT.trans hs (by simp)
    replace hl := hl.st hs (by first | decide | (simp <;> omega))
    refine yS (by kernel_rfl : opAt F8.o4 2 = some (some 35, .binOp .add 3 (.const (.int .i64 1)) (.tmp 34) 3, none)) rfl rfl (fun w' hS => val_addi rfl rfl (by omega) (by omega)) ?_
    obtain ⟨n, hnd⟩ : ∃ x : Nat, x = p + 1 := ⟨_, rfl⟩
    rw [show (1 : Int) + (p : Int) = ((n : Nat) : Int) from by omega]
    refine yS (by kernel_rfl : opAt F8.o4 3 = some (some 36, .move (.tmp 3), none)) rfl rfl (fun w' hS => val_move rfl) ?_
    refine cS (by kernel_rfl : opAt F8.o4 4 = some (some 37, .call { callee := .value (.func 13), args := #[(.tmp 36), (.const (.int .i64 4))], argTypes := #[27, 3] }, none)) rfl rfl (ent Try.call13 rfl) (next_any (n := 4) hF (by decide) hd (by omega) (by omega)) ?_
    rintro vw6 w6 ⟨q, rfl, hq, hs, hd⟩
    refine ⟨trivial, ?_⟩
    replace hF := hF.st hs
    replace hT := hT.trans hs (by simp)
    replace hl := hl.st hs (by first | decide | (simp <;> omega))
    refine yS (by kernel_rfl : opAt F8.o4 5 = some (some 38, .binOp .add 3 (.const (.int .i64 1)) (.tmp 37) 3, none)) rfl rfl (fun w' hS => val_addi rfl rfl (by omega) (by omega)) ?_
    obtain ⟨m, hmd⟩ : ∃ x : Nat, x = q + 1 := ⟨_, rfl⟩
    rw [show (1 : Int) + (q : Int) = ((m : Nat) : Int) from by omega]
    refine yS (by kernel_rfl : opAt F8.o4 6 = some (some 4, .assign (.tmp 35), none)) rfl rfl (fun w' hS => val_assign rfl) ?_
    refine yS (by kernel_rfl : opAt F8.o4 7 = some (some 5, .assign (.tmp 38), none)) rfl rfl (fun w' hS => val_assign rfl) ?_
    refine Sch.nil ?_
    refine run_seq (x := F8.c15) (y := F8.c16) (by kernel_rfl) ?_
    refine run_plain (id := 5) (ops := F8.o5) [(0, true), (1, true), (2, true), (3, false), (4, true), (5, true), (6, true), (7, false), (8, true), (9, true)] (by kernel_rfl) (by kernel_rfl) ?_
    refine yS (by kernel_rfl : opAt F8.o5 0 = some (some 39, .move (.tmp 3), none)) rfl rfl (fun w' hS => val_move rfl) ?_
    refine yS (by kernel_rfl : opAt F8.o5 1 = some (some 40, .move (.tmp 4), none)) rfl rfl (fun w' hS => val_move rfl) ?_
    refine yS (by kernel_rfl : opAt F8.o5 2 = some (some 41, .move (.tmp 5), none)) rfl rfl (fun w' hS => val_move rfl) ?_
    refine cS (by kernel_rfl : opAt F8.o5 3 = some (some 42, .call { callee := .value (.func 14), args := #[(.tmp 39), (.tmp 40), (.tmp 41), (.const (.int .i64 2))], argTypes := #[27, 3, 3, 3] }, none)) rfl rfl (ent Try.call14 rfl) (edges_any (n := n) (m := m) (one := 2) hF (by decide) hd (by omega) (by omega) (by decide) (by decide)) ?_
    rintro v_el w7 ⟨el, hE, ⟨hs, he, hd⟩, _⟩
    have hEV := hE.ve (by omega) (by omega)
    have hEc := hEV.check
    refine ⟨trivial, ?_⟩
    replace hF := hF.st hs
    replace hT := hT.trans hs (by simp)
    replace hl := hl.st hs (by first | decide | (simp <;> omega))
    refine yS (by kernel_rfl : opAt F8.o5 4 = some (some 43, .move (.tmp 3), none)) rfl rfl (fun w' hS => val_move rfl) ?_
    refine yS (by kernel_rfl : opAt F8.o5 5 = some (some 44, .move (.tmp 4), none)) rfl rfl (fun w' hS => val_move rfl) ?_
    refine yS (by kernel_rfl : opAt F8.o5 6 = some (some 45, .move (.tmp 5), none)) rfl rfl (fun w' hS => val_move rfl) ?_
    refine cS (by kernel_rfl : opAt F8.o5 7 = some (some 46, .call { callee := .value (.func 14), args := #[(.tmp 43), (.tmp 44), (.tmp 45), (.const (.int .i64 2))], argTypes := #[27, 3, 3, 3] }, none)) rfl rfl (ent Try.call14 rfl) (edges_any (n := n) (m := m) (one := 2) hF (by decide) hd (by omega) (by omega) (by decide) (by decide)) ?_
    rintro v_fl w8 ⟨fl, hG, ⟨hs, hf, hd⟩, _⟩
    have hGV := hG.ve (by omega) (by omega)
    have hGc := hGV.check
    refine ⟨trivial, ?_⟩
    replace hF := hF.st hs
    replace hT := hT.trans hs (by simp)
    replace hl := hl.st hs (by first | decide | (simp <;> omega))
    replace he := he.st hs (by first | decide | (simp <;> omega))
    refine yS (by kernel_rfl : opAt F8.o5 8 = some (some 6, .assign (.tmp 42), none)) rfl rfl (fun w' hS => val_assign rfl) ?_
    refine yS (by kernel_rfl : opAt F8.o5 9 = some (some 7, .assign (.tmp 46), none)) rfl rfl (fun w' hS => val_assign rfl) ?_
    refine Sch.nil ?_
    have hel := hE.len
    have hfl := hG.len
    clear hd
    refine run_seq (x := F8.c17) (y := F8.c18) (by kernel_rfl) ?_
    refine run_plain (id := 6) (ops := F8.o6) [(0, true), (1, false), (2, true)] (by kernel_rfl) (by kernel_rfl) ?_
    refine yS (by kernel_rfl : opAt F8.o6 0 = some (some 47, .move (.tmp 6), none)) rfl rfl (fun w' hS => val_move rfl) ?_
    refine aS (by kernel_rfl : opAt F8.o6 1 = some (some 48, .call { callee := .builtin .append, args := #[(.const (.slice none 0 0)), (.tmp 47)], argTypes := #[23, 23] }, none)) rfl rfl (a_append (e := 46) (bytes := 24) hF (by decide) rfl rfl (by kernel_rfl) (by decide) (OwnL.nil (α := K.Edge) (j := 4)) he (by simp only [List.length_append, List.length_cons, List.length_nil, List.length_take, List.length_drop, List.length_map]; omega) (by simp only [List.length_append, List.length_cons, List.length_nil, List.length_take, List.length_drop, List.length_map]; omega)) ?_
    rintro v48 w9 ⟨Cw9, hs, ha, hF⟩
    refine ⟨trivial, ?_⟩
    replace hT := hT.trans hs (by simp)
    replace hl := hl.st hs (by first | decide | (simp <;> omega))
    replace he := he.st hs (by first | decide | (simp <;> omega))
    replace hf := hf.st hs (by first | decide | (simp <;> omega))
    refine yS (by kernel_rfl : opAt F8.o6 2 = some (some 8, .assign (.tmp 48), none)) rfl rfl (fun w' hS => val_assign rfl) ?_
    refine Sch.nil ?_
    simp only [List.nil_append] at ha
    refine run_seq (x := F8.c19) (y := F8.c35) (by kernel_rfl) ?_
    refine run_seq (x := F8.c20) (y := F8.c21) (by kernel_rfl) ?_
    refine run_plain (id := 7) (ops := F8.o7) [(0, true), (1, true), (2, true)] (by kernel_rfl) (by kernel_rfl) ?_
    refine yS (by kernel_rfl : opAt F8.o7 0 = some (some 49, .move (.tmp 7), none)) rfl rfl (fun w' hS => val_move rfl) ?_
    refine yS (by kernel_rfl : opAt F8.o7 1 = some (some 50, .call { callee := .builtin .len, args := #[(.tmp 49)], argTypes := #[23] }, none)) rfl rfl (fun w' hS => hf.lenV rfl Try.underlying23 w' ) ?_
    refine yS (by kernel_rfl : opAt F8.o7 2 = some (some 51, .move (.const (.int .i64 0)), none)) rfl rfl (fun w' hS => val_move rfl) ?_
    refine Sch.nil ?_
    refine run_block (x := F8.c22) (id := 0) (by kernel_rfl) ?_
    
    refine run_loop (ι := Nat × Value × (Nat → Nat)) (I := fun x w => x.1 ≤ fl.length ∧ Lim w x.2.2 ∧ Stp [2, 3, 4, 5, 6, 7, 8, 9] w₀ (col1 C) w x.2.2 ∧ RV w (Mc x.2.2) el v_el ∧ RV w (Mc x.2.2) fl v_fl ∧ OwnL w x.2.2 4 46 x.2.1 (el ++ (fl.take x.1).map (shE n m))) (e := fun x => [(4, .int .i64 n), (5, .int .i64 m), (6, v_el), (7, v_fl), (8, x.2.1), (49, v_fl), (50, .int .i64 fl.length), (51, .int .i64 x.1)]) (m := fun x => fl.length - x.1) (x₀ := (0, v48, Cw9)) (body := F8.c23) (by kernel_rfl) (sub_cons 4 rfl rfl (sub_cons 5 rfl rfl (sub_cons 6 rfl rfl (sub_cons 7 rfl rfl (sub_cons 8 rfl rfl (sub_cons 49 rfl rfl (sub_cons 50 rfl rfl (sub_cons 51 rfl rfl (sub_nil _))))))))) ?_ ?_
    · exact ⟨Nat.zero_le _, hF, hT, he, hf, by simpa using ha⟩
    intro ⟨i, va, C1⟩ w10 hI next
    obtain ⟨hi, hF, hT, he, hf, ha⟩ := hI
    try simp only at hi hF hT he hf ha
    have next1 := next
    clear next
    show Run _ _ _ _ [(4, .int .i64 n), (5, .int .i64 m), (6, v_el), (7, v_fl), (8, va), (49, v_fl), (50, .int .i64 fl.length), (51, .int .i64 i)] _ _
    refine run_seq (x := F8.c24) (y := F8.c25) (by kernel_rfl) ?_
    refine run_plain (id := 8) (ops := F8.o8) [(0, true)] (by kernel_rfl) (by kernel_rfl) ?_
    refine yS (by kernel_rfl : opAt F8.o8 0 = some (some 52, .binOp .lss 3 (.tmp 51) (.tmp 50) 3, none)) rfl rfl (fun w' hS => val_lss rfl rfl) ?_
    refine Sch.nil ?_
    refine run_seq (x := F8.c26) (y := F8.c29) (by kernel_rfl) ?_
    refine run_if (x := F8.c27) (y := F8.c28) (o := .tmp 52) (by kernel_rfl) rfl (fun h52 => ?_) (fun h52 => ?_)
    · skip
      have hil : i < fl.length := by omega
      have htk := List.take_succ_eq_append_getElem hil
      have hxo := (hG.ok _ (List.getElem_mem hil)).1
      refine run_skip (by kernel_rfl) ?_
      refine run_seq (x := F8.c30) (y := F8.c34) (by kernel_rfl) ?_
      refine run_block (x := F8.c31) (id := 1) (by kernel_rfl) ?_
      refine run_seq (x := F8.c32) (y := F8.c33) (by kernel_rfl) ?_
      refine run_plain (id := 9) (ops := F8.o9) [(0, true), (1, false), (2, false), (3, false)] (by kernel_rfl) (by kernel_rfl) ?_
      refine iS (e := 46) (by kernel_rfl : opAt F8.o9 0 = some (some 53, .indexAddr 23 (.tmp 49) (.tmp 51), none)) rfl rfl hf rfl (by kernel_rfl) rfl (by omega) (by omega) ?_
      intro b53 o53 h53
      try simp only [Int.toNat_natCast] at h53
      refine lNA (by kernel_rfl : opAt F8.o9 1 = some (some 54, .load 46 (.tmp 53), none)) rfl rfl trivial h53 (by kernel_rfl) (by kernel_rfl) rfl rfl ?_
      intro v54 g54
      obtain rfl := rv_edge.1 g54
      refine aS (by kernel_rfl : opAt F8.o9 2 = some (some 10, .alloc 46, none)) rfl rfl (a_alloc (cs := [.int .i64 0, .int .i64 0, .int .i64 0]) hF 6 (by kernel_rfl)) ?_
      rintro _ w11 ⟨Cw11, bw11, rfl, hs, hx, hF⟩
      refine ⟨trivial, ?_⟩
      replace hT := hT.trans hs (by simp)
      replace he := he.st hs (by first | decide | (simp <;> omega))
      replace hf := hf.st hs (by first | decide | (simp <;> omega))
      replace ha := ha.st hs (by first | decide | (simp <;> omega)) (by first | decide | (simp <;> omega))
      replace h53 := h53.st hs (by first | decide | (simp <;> omega))
      refine aN (by kernel_rfl : opAt F8.o9 3 = some (none, .store 46 (.tmp 10) (.tmp 54), none)) rfl (a_storeAll (vs := encE (fl[i]'hil)) (n := 3) rfl rfl (by kernel_rfl) rfl rfl (by intro u hu; simp only [encE, List.mem_cons, List.not_mem_nil, or_false] at hu; rcases hu with rfl | rfl | rfl <;> rfl) hx rfl) ?_
      rintro _ w12 ⟨rfl, hs, hx⟩
      refine ⟨trivial, ?_⟩
      replace hF := hF.st hs
      replace hT := hT.trans hs (by simp)
      replace he := he.st hs (by first | decide | (simp <;> omega))
      replace hf := hf.st hs (by first | decide | (simp <;> omega))
      replace ha := ha.st hs (by first | decide | (simp <;> omega)) (by first | decide | (simp <;> omega))
      replace h53 := h53.st hs (by first | decide | (simp <;> omega))
      refine Sch.nil ?_
      refine run_plain (id := 10) (ops := F8.o10) [(0, true), (1, true), (2, false), (3, true), (4, true), (5, true), (6, false), (7, true), (8, true), (9, true), (10, false), (11, true), (12, false), (13, false), (14, true)] (by kernel_rfl) (by kernel_rfl) ?_
      refine yS (by kernel_rfl : opAt F8.o10 0 = some (some 55, .move (.tmp 8), none)) rfl rfl (fun w' hS => val_move rfl) ?_
      refine yS (by kernel_rfl : opAt F8.o10 1 = some (some 56, .fieldAddr 46 (.tmp 10) 0, none)) rfl rfl (fun w' hS => val_fieldAddr (off := 0) (by kernel_rfl) rfl) ?_
      refine nS (by kernel_rfl : opAt F8.o10 2 = some (some 57, .load 3 (.tmp 56), none)) rfl rfl trivial (val_loadOwn hx.at_ (by kernel_rfl) rfl rfl) ?_
      refine yS (by kernel_rfl : opAt F8.o10 3 = some (some 58, .move (.tmp 4), none)) rfl rfl (fun w' hS => val_move rfl) ?_
      refine yS (by kernel_rfl : opAt F8.o10 4 = some (some 59, .binOp .add 3 (.tmp 57) (.tmp 58) 3, none)) rfl rfl (fun w' hS => val_addi rfl rfl (by omega) (by omega)) ?_
      refine yS (by kernel_rfl : opAt F8.o10 5 = some (some 60, .fieldAddr 46 (.tmp 10) 1, none)) rfl rfl (fun w' hS => val_fieldAddr (off := 1) (by kernel_rfl) rfl) ?_
      refine nS (by kernel_rfl : opAt F8.o10 6 = some (some 61, .load 3 (.tmp 60), none)) rfl rfl trivial (val_loadOwn hx.at_ (by kernel_rfl) rfl rfl) ?_
      refine yS (by kernel_rfl : opAt F8.o10 7 = some (some 62, .move (.tmp 5), none)) rfl rfl (fun w' hS => val_move rfl) ?_
      refine yS (by kernel_rfl : opAt F8.o10 8 = some (some 63, .binOp .add 3 (.tmp 61) (.tmp 62) 3, none)) rfl rfl (fun w' hS => val_addi rfl rfl (by omega) (by omega)) ?_
      refine yS (by kernel_rfl : opAt F8.o10 9 = some (some 64, .fieldAddr 46 (.tmp 10) 2, none)) rfl rfl (fun w' hS => val_fieldAddr (off := 2) (by kernel_rfl) rfl) ?_
      refine nS (by kernel_rfl : opAt F8.o10 10 = some (some 65, .load 3 (.tmp 64), none)) rfl rfl trivial (val_loadOwn hx.at_ (by kernel_rfl) rfl rfl) ?_
      refine yS (by kernel_rfl : opAt F8.o10 11 = some (some 66, .build 46 #[(0, (.tmp 59)), (1, (.tmp 63)), (2, (.tmp 65))], none)) rfl rfl (fun w' hS => val_build (zs := [.int .i64 0, .int .i64 0, .int .i64 0]) (ps := [(0, 1), (1, 1), (2, 1)]) (qs := [(0, [.int .i64 ((fl[i]'hil).a + (n : Int))]), (1, [.int .i64 ((fl[i]'hil).b + (m : Int))]), (2, [.int .i64 (fl[i]'hil).w])]) (cs := [.int .i64 ((fl[i]'hil).a + (n : Int)), .int .i64 ((fl[i]'hil).b + (m : Int)), .int .i64 (fl[i]'hil).w]) (by kernel_rfl) (by kernel_rfl) (by exact ⟨rfl, ⟨_, rfl, rfl⟩, rfl, ⟨_, rfl, rfl⟩, rfl, ⟨_, rfl, rfl⟩, trivial⟩) rfl) ?_
      refine aS (by kernel_rfl : opAt F8.o10 12 = some (some 67, .buildSlice 23 1 #[(0, (.tmp 66))], none)) rfl rfl (a_buildSlice (ys := ([shE n m (fl[i]'hil)] : List K.Edge)) (e := 46) (bytes := 24) hF (by kernel_rfl) rfl (by decide) (by decide) ⟨rfl, ⟨_, rfl, rv_edge.2 rfl⟩, trivial⟩) ?_
      rintro v67 w13 ⟨hs, g67, hF⟩
      refine ⟨trivial, ?_⟩
      replace hT := hT.trans hs (by simp)
      replace he := he.st hs (by first | decide | (simp <;> omega))
      replace hf := hf.st hs (by first | decide | (simp <;> omega))
      replace ha := ha.st hs (by first | decide | (simp <;> omega)) (by first | decide | (simp <;> omega))
      replace h53 := h53.st hs (by first | decide | (simp <;> omega))
      replace hx := hx.st hs (by first | decide | (simp <;> omega))
      refine aS (by kernel_rfl : opAt F8.o10 13 = some (some 68, .call { callee := .builtin .append, args := #[(.tmp 55), (.tmp 67)], argTypes := #[23, 23] }, none)) rfl rfl (a_append (e := 46) (bytes := 24) hF (by decide) rfl rfl (by kernel_rfl) (by decide) ha g67 (by simp only [List.length_append, List.length_cons, List.length_nil, List.length_take, List.length_drop, List.length_map]; omega) (by simp only [List.length_append, List.length_cons, List.length_nil, List.length_take, List.length_drop, List.length_map]; omega)) ?_
      rintro v68 w14 ⟨Cw14, hs, ha, hF⟩
      refine ⟨trivial, ?_⟩
      replace hT := hT.trans hs (by simp)
      replace he := he.st hs (by first | decide | (simp <;> omega))
      replace hf := hf.st hs (by first | decide | (simp <;> omega))
      replace h53 := h53.st hs (by first | decide | (simp <;> omega))
      replace hx := hx.st hs (by first | decide | (simp <;> omega))
      replace g67 := g67.st hs (by first | decide | (simp <;> omega))
      refine yS (by kernel_rfl : opAt F8.o10 14 = some (some 8, .assign (.tmp 68), none)) rfl rfl (fun w' hS => val_assign rfl) ?_
      refine Sch.nil ?_
      refine run_inBlock ?_
      refine run_plain (id := 11) (ops := F8.o11) [(0, true), (1, true)] (by kernel_rfl) (by kernel_rfl) ?_
      refine yS (by kernel_rfl : opAt F8.o11 0 = some (some 69, .binOp .add 3 (.tmp 51) (.const (.int .i64 1)) 3, none)) rfl rfl (fun w' hS => val_addi rfl rfl (by omega) (by omega)) ?_
      refine yS (by kernel_rfl : opAt F8.o11 1 = some (some 51, .move (.tmp 69), none)) rfl rfl (fun w' hS => val_move rfl) ?_
      refine Sch.nil ?_
      refine kp (sub_cons 4 rfl rfl (sub_cons 5 rfl rfl (sub_cons 6 rfl rfl (sub_cons 7 rfl rfl (sub_cons 8 rfl rfl (sub_cons 49 rfl rfl (sub_cons 50 rfl rfl (sub_cons 51 rfl (eq_int (by simp)) (sub_nil _))))))))) (next1 (i + 1, v68, Cw14) _ ⟨(by first | omega | (simp only; omega)), hF, hT, he, hf, (by simp only; rw [htk, List.map_append, ← List.append_assoc]; exact ha)⟩ (by first | omega | (simp only; omega)))
    · skip
      have hil : i = fl.length := by omega
      rw [hil, List.take_length] at ha
      obtain ⟨al, hal⟩ : ∃ x, x = el ++ fl.map (shE n m) := ⟨_, rfl⟩
      rw [← hal] at ha
      have hall : al.length ≤ 128 := by rw [hal, List.length_append, List.length_map]; omega
      obtain ⟨hca, hlt, hll⟩ := parts_law hEV hGV (by omega) (by omega) (by omega) hal
      have e2n : (2 : Int) * (n : Int) = ((2 * n : Nat) : Int) := by omega
      have e2m : (2 : Int) * (m : Int) = ((2 * m : Nat) : Int) := by omega
      replace hF := hF.frz 4
      replace hT := hT.frz (n := 4) (fun b => Nat.lt_of_lt_of_le (col1_lt2 C b) (by decide))
      replace he := he.frz 4
      replace hf := hf.frz 4
      have ha_ := ha.frz (n := 4) (by decide) (by omega)
      replace ha := ha_
      clear ha_
      refine run_exit (id := 0) (by kernel_rfl) rfl ?_
      refine run_seq (x := F8.c36) (y := F8.c37) (by kernel_rfl) ?_
      refine run_plain (id := 12) (ops := F8.o12) [(0, true), (1, true), (2, true), (3, false), (4, true), (5, true), (6, true), (7, true), (8, true), (9, true), (10, true)] (by kernel_rfl) (by kernel_rfl) ?_
      refine yS (by kernel_rfl : opAt F8.o12 0 = some (some 71, .move (.tmp 4), none)) rfl rfl (fun w' hS => val_move rfl) ?_
      refine yS (by kernel_rfl : opAt F8.o12 1 = some (some 72, .move (.tmp 5), none)) rfl rfl (fun w' hS => val_move rfl) ?_
      refine yS (by kernel_rfl : opAt F8.o12 2 = some (some 73, .move (.tmp 6), none)) rfl rfl (fun w' hS => val_move rfl) ?_
      refine cS (by kernel_rfl : opAt F8.o12 3 = some (some 74, .call { callee := .value (.func 19), args := #[(.tmp 71), (.tmp 72), (.tmp 73)], argTypes := #[3, 3, 23] }, none)) rfl rfl (ent Try.call19 rfl) (solve_ok (n := n) (m := m) (l := el) hF he) ?_
      rintro vw15 w15 ⟨u1, rfl, hs, hc1⟩
      refine ⟨trivial, ?_⟩
      replace hF := hF.st hs
      replace hT := hT.trans hs (by simp)
      replace he := he.st hs (by first | decide | (simp <;> omega))
      replace hf := hf.st hs (by first | decide | (simp <;> omega))
      replace ha := ha.st hs (by first | decide | (simp <;> omega))
      rw [hEc]
      refine yS (by kernel_rfl : opAt F8.o12 4 = some (some 70, .move (.tmp 74), none)) rfl rfl (fun w' hS => val_move rfl) ?_
      refine yS (by kernel_rfl : opAt F8.o12 5 = some (some 75, .extract (.tmp 70) 0, none)) rfl rfl (fun w' hS => val_extract rfl rfl) ?_
      refine yS (by kernel_rfl : opAt F8.o12 6 = some (some 76, .extract (.tmp 70) 1, none)) rfl rfl (fun w' hS => val_extract rfl rfl) ?_
      refine yS (by kernel_rfl : opAt F8.o12 7 = some (some 77, .extract (.tmp 70) 2, none)) rfl rfl (fun w' hS => val_extract rfl rfl) ?_
      refine yS (by kernel_rfl : opAt F8.o12 8 = some (some 11, .assign (.tmp 75), none)) rfl rfl (fun w' hS => val_assign rfl) ?_
      refine yS (by kernel_rfl : opAt F8.o12 9 = some (some 12, .assign (.tmp 76), none)) rfl rfl (fun w' hS => val_assign rfl) ?_
      refine yS (by kernel_rfl : opAt F8.o12 10 = some (some 13, .assign (.tmp 77), none)) rfl rfl (fun w' hS => val_assign rfl) ?_
      refine Sch.nil ?_
      refine run_seq (x := F8.c38) (y := F8.c39) (by kernel_rfl) ?_
      refine run_plain (id := 13) (ops := F8.o13) [(0, true), (1, true), (2, true), (3, false), (4, true), (5, true), (6, true), (7, true), (8, true), (9, true), (10, true)] (by kernel_rfl) (by kernel_rfl) ?_
      refine yS (by kernel_rfl : opAt F8.o13 0 = some (some 79, .move (.tmp 4), none)) rfl rfl (fun w' hS => val_move rfl) ?_
      refine yS (by kernel_rfl : opAt F8.o13 1 = some (some 80, .move (.tmp 5), none)) rfl rfl (fun w' hS => val_move rfl) ?_
      refine yS (by kernel_rfl : opAt F8.o13 2 = some (some 81, .move (.tmp 7), none)) rfl rfl (fun w' hS => val_move rfl) ?_
      refine cS (by kernel_rfl : opAt F8.o13 3 = some (some 82, .call { callee := .value (.func 19), args := #[(.tmp 79), (.tmp 80), (.tmp 81)], argTypes := #[3, 3, 23] }, none)) rfl rfl (ent Try.call19 rfl) (solve_ok (n := n) (m := m) (l := fl) hF hf) ?_
      rintro vw16 w16 ⟨u2, rfl, hs, hc2⟩
      refine ⟨trivial, ?_⟩
      replace hF := hF.st hs
      replace hT := hT.trans hs (by simp)
      replace he := he.st hs (by first | decide | (simp <;> omega))
      replace hf := hf.st hs (by first | decide | (simp <;> omega))
      replace ha := ha.st hs (by first | decide | (simp <;> omega))
      replace hc1 := hc1.st hs (by first | decide | (simp <;> omega))
      rw [hGc]
      refine yS (by kernel_rfl : opAt F8.o13 4 = some (some 78, .move (.tmp 82), none)) rfl rfl (fun w' hS => val_move rfl) ?_
      refine yS (by kernel_rfl : opAt F8.o13 5 = some (some 83, .extract (.tmp 78) 0, none)) rfl rfl (fun w' hS => val_extract rfl rfl) ?_
      refine yS (by kernel_rfl : opAt F8.o13 6 = some (some 84, .extract (.tmp 78) 1, none)) rfl rfl (fun w' hS => val_extract rfl rfl) ?_
      refine yS (by kernel_rfl : opAt F8.o13 7 = some (some 85, .extract (.tmp 78) 2, none)) rfl rfl (fun w' hS => val_extract rfl rfl) ?_
      refine yS (by kernel_rfl : opAt F8.o13 8 = some (some 14, .assign (.tmp 83), none)) rfl rfl (fun w' hS => val_assign rfl) ?_
      refine yS (by kernel_rfl : opAt F8.o13 9 = some (some 15, .assign (.tmp 84), none)) rfl rfl (fun w' hS => val_assign rfl) ?_
      refine yS (by kernel_rfl : opAt F8.o13 10 = some (some 16, .assign (.tmp 85), none)) rfl rfl (fun w' hS => val_assign rfl) ?_
      refine Sch.nil ?_
      refine run_seq (x := F8.c40) (y := F8.c41) (by kernel_rfl) ?_
      refine run_plain (id := 14) (ops := F8.o14) [(0, true), (1, true), (2, true), (3, true), (4, true), (5, false), (6, true), (7, true), (8, true), (9, true), (10, true), (11, true), (12, true)] (by kernel_rfl) (by kernel_rfl) ?_
      refine yS (by kernel_rfl : opAt F8.o14 0 = some (some 87, .move (.tmp 4), none)) rfl rfl (fun w' hS => val_move rfl) ?_
      refine yS (by kernel_rfl : opAt F8.o14 1 = some (some 88, .binOp .mul 3 (.const (.int .i64 2)) (.tmp 87) 3, none)) rfl rfl (fun w' hS => val_muli rfl rfl (by omega) (by omega)) ?_
      rw [e2n]
      refine yS (by kernel_rfl : opAt F8.o14 2 = some (some 89, .move (.tmp 5), none)) rfl rfl (fun w' hS => val_move rfl) ?_
      refine yS (by kernel_rfl : opAt F8.o14 3 = some (some 90, .binOp .mul 3 (.const (.int .i64 2)) (.tmp 89) 3, none)) rfl rfl (fun w' hS => val_muli rfl rfl (by omega) (by omega)) ?_
      rw [e2m]
      refine yS (by kernel_rfl : opAt F8.o14 4 = some (some 91, .move (.tmp 8), none)) rfl rfl (fun w' hS => val_move rfl) ?_
      refine cS (by kernel_rfl : opAt F8.o14 5 = some (some 92, .call { callee := .value (.func 19), args := #[(.tmp 88), (.tmp 90), (.tmp 91)], argTypes := #[3, 3, 23] }, none)) rfl rfl (ent Try.call19 rfl) (solve_ok (n := ((2 * n : Nat) : Int)) (m := ((2 * m : Nat) : Int)) (l := al) hF ha) ?_
      rintro vw17 w17 ⟨u3, rfl, hs, hc3⟩
      refine ⟨trivial, ?_⟩
      replace hF := hF.st hs
      replace hT := hT.trans hs (by simp)
      replace he := he.st hs (by first | decide | (simp <;> omega))
      replace hf := hf.st hs (by first | decide | (simp <;> omega))
      replace ha := ha.st hs (by first | decide | (simp <;> omega))
      replace hc1 := hc1.st hs (by first | decide | (simp <;> omega))
      replace hc2 := hc2.st hs (by first | decide | (simp <;> omega))
      rw [hca]
      refine yS (by kernel_rfl : opAt F8.o14 6 = some (some 86, .move (.tmp 92), none)) rfl rfl (fun w' hS => val_move rfl) ?_
      refine yS (by kernel_rfl : opAt F8.o14 7 = some (some 93, .extract (.tmp 86) 0, none)) rfl rfl (fun w' hS => val_extract rfl rfl) ?_
      refine yS (by kernel_rfl : opAt F8.o14 8 = some (some 94, .extract (.tmp 86) 1, none)) rfl rfl (fun w' hS => val_extract rfl rfl) ?_
      refine yS (by kernel_rfl : opAt F8.o14 9 = some (some 95, .extract (.tmp 86) 2, none)) rfl rfl (fun w' hS => val_extract rfl rfl) ?_
      refine yS (by kernel_rfl : opAt F8.o14 10 = some (some 17, .assign (.tmp 93), none)) rfl rfl (fun w' hS => val_assign rfl) ?_
      refine yS (by kernel_rfl : opAt F8.o14 11 = some (some 18, .assign (.tmp 94), none)) rfl rfl (fun w' hS => val_assign rfl) ?_
      refine yS (by kernel_rfl : opAt F8.o14 12 = some (some 19, .assign (.tmp 95), none)) rfl rfl (fun w' hS => val_assign rfl) ?_
      refine Sch.nil ?_
      have hsl1 : (solL n m el).length ≤ n := by rw [solL_bst hEc]; simpa using outS_len n m (bst n m (pos (edW el)))
      have hsl2 : (solL n m fl).length ≤ n := by rw [solL_bst hGc]; simpa using outS_len n m (bst n m (pos (edW fl)))
      obtain ⟨cl, hcl⟩ : ∃ x, x = solL n m fl := ⟨_, rfl⟩
      rw [← hcl] at hc2 hsl2 hll
      have hco : ∀ c ∈ cl, (0 ≤ c.a ∧ c.a ≤ 64) ∧ 0 ≤ c.b ∧ c.b ≤ 64 := fun c hc => by
        rw [hcl, solL_bst hGc] at hc
        obtain ⟨q, h1, h2, rfl⟩ := outS_mem.1 hc
        simp only [Int.toNat_natCast] at h1 h2 ⊢
        omega
      refine run_seq (x := F8.c42) (y := F8.c43) (by kernel_rfl) ?_
      refine run_plain (id := 15) (ops := F8.o15) [(0, true), (1, false), (2, true)] (by kernel_rfl) (by kernel_rfl) ?_
      refine yS (by kernel_rfl : opAt F8.o15 0 = some (some 96, .move (.tmp 11), none)) rfl rfl (fun w' hS => val_move rfl) ?_
      refine aS (by kernel_rfl : opAt F8.o15 1 = some (some 97, .call { callee := .builtin .append, args := #[(.const (.slice none 0 0)), (.tmp 96)], argTypes := #[24, 24] }, none)) rfl rfl (a_append (e := 53) (bytes := 16) hF (by decide) rfl rfl (by kernel_rfl) (by decide) (OwnL.nil (α := Couple) (j := 5)) hc1 (by simp only [List.length_append, List.length_cons, List.length_nil, List.length_take, List.length_drop, List.length_map]; omega) (by simp only [List.length_append, List.length_cons, List.length_nil, List.length_take, List.length_drop, List.length_map]; omega)) ?_
      rintro v97 w18 ⟨Cw18, hs, hw, hF⟩
      refine ⟨trivial, ?_⟩
      replace hT := hT.trans hs (by simp)
      replace he := he.st hs (by first | decide | (simp <;> omega))
      replace hf := hf.st hs (by first | decide | (simp <;> omega))
      replace ha := ha.st hs (by first | decide | (simp <;> omega))
      replace hc1 := hc1.st hs (by first | decide | (simp <;> omega))
      replace hc2 := hc2.st hs (by first | decide | (simp <;> omega))
      replace hc3 := hc3.st hs (by first | decide | (simp <;> omega))
      refine yS (by kernel_rfl : opAt F8.o15 2 = some (some 20, .assign (.tmp 97), none)) rfl rfl (fun w' hS => val_assign rfl) ?_
      refine Sch.nil ?_
      simp only [List.nil_append] at hw
      refine run_seq (x := F8.c44) (y := F8.c60) (by kernel_rfl) ?_
      refine run_seq (x := F8.c45) (y := F8.c46) (by kernel_rfl) ?_
      refine run_plain (id := 16) (ops := F8.o16) [(0, true), (1, true), (2, true)] (by kernel_rfl) (by kernel_rfl) ?_
      refine yS (by kernel_rfl : opAt F8.o16 0 = some (some 98, .move (.tmp 14), none)) rfl rfl (fun w' hS => val_move rfl) ?_
      refine yS (by kernel_rfl : opAt F8.o16 1 = some (some 99, .call { callee := .builtin .len, args := #[(.tmp 98)], argTypes := #[24] }, none)) rfl rfl (fun w' hS => hc2.lenV rfl Try.underlying24 w' ) ?_
      refine yS (by kernel_rfl : opAt F8.o16 2 = some (some 100, .move (.const (.int .i64 0)), none)) rfl rfl (fun w' hS => val_move rfl) ?_
      refine Sch.nil ?_
      refine run_block (x := F8.c47) (id := 2) (by kernel_rfl) ?_
      
      refine run_loop (ι := Nat × Value × (Nat → Nat)) (I := fun x w => x.1 ≤ cl.length ∧ Lim w x.2.2 ∧ Stp [2, 3, 4, 5, 6, 7, 8, 9] w₀ (col1 C) w x.2.2 ∧ RV w (Mc x.2.2) cl u2 ∧ RV w (Mc x.2.2) (solL ((2 * n : Nat) : Int) ((2 * m : Nat) : Int) al) u3 ∧ OwnL w x.2.2 5 53 x.2.1 (solL n m el ++ (cl.take x.1).map (shC n m))) (e := fun x => [(4, .int .i64 n), (5, .int .i64 m), (12, .int .i64 (solT n m el)), (13, .int .i64 0), (15, .int .i64 (solT n m fl)), (16, .int .i64 0), (17, u3), (18, .int .i64 (solT ((2 * n : Nat) : Int) ((2 * m : Nat) : Int) al)), (19, .int .i64 0), (20, x.2.1), (98, u2), (99, .int .i64 cl.length), (100, .int .i64 x.1)]) (m := fun x => cl.length - x.1) (x₀ := (0, v97, Cw18)) (body := F8.c48) (by kernel_rfl) (sub_cons 4 rfl rfl (sub_cons 5 rfl rfl (sub_cons 12 rfl rfl (sub_cons 13 rfl rfl (sub_cons 15 rfl rfl (sub_cons 16 rfl rfl (sub_cons 17 rfl rfl (sub_cons 18 rfl rfl (sub_cons 19 rfl rfl (sub_cons 20 rfl rfl (sub_cons 98 rfl rfl (sub_cons 99 rfl rfl (sub_cons 100 rfl rfl (sub_nil _)))))))))))))) ?_ ?_
      · exact ⟨Nat.zero_le _, hF, hT, hc2, hc3, by simpa using hw⟩
      intro ⟨i, vw, C1⟩ w19 hI next
      obtain ⟨hi, hF, hT, hc2, hc3, hw⟩ := hI
      try simp only at hi hF hT hc2 hc3 hw
      have next2 := next
      clear next
      show Run _ _ _ _ [(4, .int .i64 n), (5, .int .i64 m), (12, .int .i64 (solT n m el)), (13, .int .i64 0), (15, .int .i64 (solT n m fl)), (16, .int .i64 0), (17, u3), (18, .int .i64 (solT ((2 * n : Nat) : Int) ((2 * m : Nat) : Int) al)), (19, .int .i64 0), (20, vw), (98, u2), (99, .int .i64 cl.length), (100, .int .i64 i)] _ _
      refine run_seq (x := F8.c49) (y := F8.c50) (by kernel_rfl) ?_
      refine run_plain (id := 17) (ops := F8.o17) [(0, true)] (by kernel_rfl) (by kernel_rfl) ?_
      refine yS (by kernel_rfl : opAt F8.o17 0 = some (some 101, .binOp .lss 3 (.tmp 100) (.tmp 99) 3, none)) rfl rfl (fun w' hS => val_lss rfl rfl) ?_
      refine Sch.nil ?_
      refine run_seq (x := F8.c51) (y := F8.c54) (by kernel_rfl) ?_
      refine run_if (x := F8.c52) (y := F8.c53) (o := .tmp 101) (by kernel_rfl) rfl (fun h101 => ?_) (fun h101 => ?_)
      · skip
        have hil2 : i < cl.length := by omega
        have htk2 := List.take_succ_eq_append_getElem hil2
        have hxo := hco _ (List.getElem_mem hil2)
        refine run_skip (by kernel_rfl) ?_
        refine run_seq (x := F8.c55) (y := F8.c59) (by kernel_rfl) ?_
        refine run_block (x := F8.c56) (id := 3) (by kernel_rfl) ?_
        refine run_seq (x := F8.c57) (y := F8.c58) (by kernel_rfl) ?_
        refine run_plain (id := 18) (ops := F8.o18) [(0, true), (1, false), (2, false), (3, false)] (by kernel_rfl) (by kernel_rfl) ?_
        refine iS (e := 53) (by kernel_rfl : opAt F8.o18 0 = some (some 102, .indexAddr 24 (.tmp 98) (.tmp 100), none)) rfl rfl hc2 rfl (by kernel_rfl) rfl (by omega) (by omega) ?_
        intro b102 o102 h102
        try simp only [Int.toNat_natCast] at h102
        refine lNA (by kernel_rfl : opAt F8.o18 1 = some (some 103, .load 53 (.tmp 102), none)) rfl rfl trivial h102 (by kernel_rfl) (by kernel_rfl) rfl rfl ?_
        intro v103 g103
        obtain rfl := rv_couple.1 g103
        refine aS (by kernel_rfl : opAt F8.o18 2 = some (some 22, .alloc 53, none)) rfl rfl (a_alloc (cs := [.int .i64 0, .int .i64 0]) hF 6 (by kernel_rfl)) ?_
        rintro _ w20 ⟨Cw20, bw20, rfl, hs, hy, hF⟩
        refine ⟨trivial, ?_⟩
        replace hT := hT.trans hs (by simp)
        replace hc2 := hc2.st hs (by first | decide | (simp <;> omega))
        replace hc3 := hc3.st hs (by first | decide | (simp <;> omega))
        replace hw := hw.st hs (by first | decide | (simp <;> omega)) (by first | decide | (simp <;> omega))
        replace h102 := h102.st hs (by first | decide | (simp <;> omega))
        refine aN (by kernel_rfl : opAt F8.o18 3 = some (none, .store 53 (.tmp 22) (.tmp 103), none)) rfl (a_storeAll (vs := encR (cl[i]'hil2)) (n := 2) rfl rfl (by kernel_rfl) rfl rfl (by intro u hu; simp only [encR, List.mem_cons, List.not_mem_nil, or_false] at hu; rcases hu with rfl | rfl <;> rfl) hy rfl) ?_
        rintro _ w21 ⟨rfl, hs, hy⟩
        refine ⟨trivial, ?_⟩
        replace hF := hF.st hs
        replace hT := hT.trans hs (by simp)
        replace hc2 := hc2.st hs (by first | decide | (simp <;> omega))
        replace hc3 := hc3.st hs (by first | decide | (simp <;> omega))
        replace hw := hw.st hs (by first | decide | (simp <;> omega)) (by first | decide | (simp <;> omega))
        replace h102 := h102.st hs (by first | decide | (simp <;> omega))
        refine Sch.nil ?_
        refine run_plain (id := 19) (ops := F8.o19) [(0, true), (1, true), (2, false), (3, true), (4, true), (5, true), (6, false), (7, true), (8, true), (9, true), (10, false), (11, false), (12, true)] (by kernel_rfl) (by kernel_rfl) ?_
        refine yS (by kernel_rfl : opAt F8.o19 0 = some (some 104, .move (.tmp 20), none)) rfl rfl (fun w' hS => val_move rfl) ?_
        refine yS (by kernel_rfl : opAt F8.o19 1 = some (some 105, .fieldAddr 53 (.tmp 22) 0, none)) rfl rfl (fun w' hS => val_fieldAddr (off := 0) (by kernel_rfl) rfl) ?_
        refine nS (by kernel_rfl : opAt F8.o19 2 = some (some 106, .load 3 (.tmp 105), none)) rfl rfl trivial (val_loadOwn hy.at_ (by kernel_rfl) rfl rfl) ?_
        refine yS (by kernel_rfl : opAt F8.o19 3 = some (some 107, .move (.tmp 4), none)) rfl rfl (fun w' hS => val_move rfl) ?_
        refine yS (by kernel_rfl : opAt F8.o19 4 = some (some 108, .binOp .add 3 (.tmp 106) (.tmp 107) 3, none)) rfl rfl (fun w' hS => val_addi rfl rfl (by omega) (by omega)) ?_
        refine yS (by kernel_rfl : opAt F8.o19 5 = some (some 109, .fieldAddr 53 (.tmp 22) 1, none)) rfl rfl (fun w' hS => val_fieldAddr (off := 1) (by kernel_rfl) rfl) ?_
        refine nS (by kernel_rfl : opAt F8.o19 6 = some (some 110, .load 3 (.tmp 109), none)) rfl rfl trivial (val_loadOwn hy.at_ (by kernel_rfl) rfl rfl) ?_
        refine yS (by kernel_rfl : opAt F8.o19 7 = some (some 111, .move (.tmp 5), none)) rfl rfl (fun w' hS => val_move rfl) ?_
        refine yS (by kernel_rfl : opAt F8.o19 8 = some (some 112, .binOp .add 3 (.tmp 110) (.tmp 111) 3, none)) rfl rfl (fun w' hS => val_addi rfl rfl (by omega) (by omega)) ?_
        refine yS (by kernel_rfl : opAt F8.o19 9 = some (some 113, .build 53 #[(0, (.tmp 108)), (1, (.tmp 112))], none)) rfl rfl (fun w' hS => val_build (zs := [.int .i64 0, .int .i64 0]) (ps := [(0, 1), (1, 1)]) (qs := [(0, [.int .i64 ((cl[i]'hil2).a + (n : Int))]), (1, [.int .i64 ((cl[i]'hil2).b + (m : Int))])]) (cs := [.int .i64 ((cl[i]'hil2).a + (n : Int)), .int .i64 ((cl[i]'hil2).b + (m : Int))]) (by kernel_rfl) (by kernel_rfl) (by exact ⟨rfl, ⟨_, rfl, rfl⟩, rfl, ⟨_, rfl, rfl⟩, trivial⟩) rfl) ?_
        refine aS (by kernel_rfl : opAt F8.o19 10 = some (some 114, .buildSlice 24 1 #[(0, (.tmp 113))], none)) rfl rfl (a_buildSlice (ys := ([shC n m (cl[i]'hil2)] : List Couple)) (e := 53) (bytes := 16) hF (by kernel_rfl) rfl (by decide) (by decide) ⟨rfl, ⟨_, rfl, rv_couple.2 rfl⟩, trivial⟩) ?_
        rintro v114 w22 ⟨hs, g114, hF⟩
        refine ⟨trivial, ?_⟩
        replace hT := hT.trans hs (by simp)
        replace hc2 := hc2.st hs (by first | decide | (simp <;> omega))
        replace hc3 := hc3.st hs (by first | decide | (simp <;> omega))
        replace hw := hw.st hs (by first | decide | (simp <;> omega)) (by first | decide | (simp <;> omega))
        replace h102 := h102.st hs (by first | decide | (simp <;> omega))
        replace hy := hy.st hs (by first | decide | (simp <;> omega))
        refine aS (by kernel_rfl : opAt F8.o19 11 = some (some 115, .call { callee := .builtin .append, args := #[(.tmp 104), (.tmp 114)], argTypes := #[24, 24] }, none)) rfl rfl (a_append (e := 53) (bytes := 16) hF (by decide) rfl rfl (by kernel_rfl) (by decide) hw g114 (by simp only [List.length_append, List.length_cons, List.length_nil, List.length_take, List.length_drop, List.length_map]; omega) (by simp only [List.length_append, List.length_cons, List.length_nil, List.length_take, List.length_drop, List.length_map]; omega)) ?_
        rintro v115 w23 ⟨Cw23, hs, hw, hF⟩
        refine ⟨trivial, ?_⟩
        replace hT := hT.trans hs (by simp)
        replace hc2 := hc2.st hs (by first | decide | (simp <;> omega))
        replace hc3 := hc3.st hs (by first | decide | (simp <;> omega))
        replace h102 := h102.st hs (by first | decide | (simp <;> omega))
        replace hy := hy.st hs (by first | decide | (simp <;> omega))
        replace g114 := g114.st hs (by first | decide | (simp <;> omega))
        refine yS (by kernel_rfl : opAt F8.o19 12 = some (some 20, .assign (.tmp 115), none)) rfl rfl (fun w' hS => val_assign rfl) ?_
        refine Sch.nil ?_
        refine run_inBlock ?_
        refine run_plain (id := 20) (ops := F8.o20) [(0, true), (1, true)] (by kernel_rfl) (by kernel_rfl) ?_
        refine yS (by kernel_rfl : opAt F8.o20 0 = some (some 116, .binOp .add 3 (.tmp 100) (.const (.int .i64 1)) 3, none)) rfl rfl (fun w' hS => val_addi rfl rfl (by omega) (by omega)) ?_
        refine yS (by kernel_rfl : opAt F8.o20 1 = some (some 100, .move (.tmp 116), none)) rfl rfl (fun w' hS => val_move rfl) ?_
        refine Sch.nil ?_
        refine kp (sub_cons 4 rfl rfl (sub_cons 5 rfl rfl (sub_cons 12 rfl rfl (sub_cons 13 rfl rfl (sub_cons 15 rfl rfl (sub_cons 16 rfl rfl (sub_cons 17 rfl rfl (sub_cons 18 rfl rfl (sub_cons 19 rfl rfl (sub_cons 20 rfl rfl (sub_cons 98 rfl rfl (sub_cons 99 rfl rfl (sub_cons 100 rfl (eq_int (by simp)) (sub_nil _)))))))))))))) (next2 (i + 1, v115, Cw23) _ ⟨(by first | omega | (simp only; omega)), hF, hT, hc2, hc3, (by simp only; rw [htk2, List.map_append, ← List.append_assoc]; exact hw)⟩ (by first | omega | (simp only; omega)))
      · skip
        have hil2 : i = cl.length := by omega
        rw [hil2, List.take_length, ← hll] at hw
        have hwl : (solL ((2 * n : Nat) : Int) ((2 * m : Nat) : Int) al).length ≤ 64 := by rw [hll, List.length_append, List.length_map]; omega
        have hb1 := solT_bnd hEc
        have hb2 := solT_bnd hGc
        replace hF := hF.frz 5
        replace hT := hT.frz (n := 5) (fun b => Nat.lt_of_lt_of_le (col1_lt2 C b) (by decide))
        replace hc2 := hc2.frz 5
        replace hc3 := hc3.frz 5
        have hw_ := hw.frz (n := 5) (by decide) (by omega)
        replace hw := hw_
        clear hw_
        refine run_exit (id := 2) (by kernel_rfl) rfl ?_
        refine run_seq (x := F8.c61) (y := F8.c62) (by kernel_rfl) ?_
        refine run_plain (id := 21) (ops := F8.o21) [(0, true), (1, true), (2, true), (3, true), (4, true), (5, true), (6, true), (7, true), (8, true), (9, true), (10, true), (11, true), (12, true), (13, true), (14, true), (15, true), (16, true), (17, true), (18, true), (19, true), (20, false), (21, true), (22, true)] (by kernel_rfl) (by kernel_rfl) ?_
        refine yS (by kernel_rfl : opAt F8.o21 0 = some (some 117, .move (.tmp 13), none)) rfl rfl (fun w' hS => val_move rfl) ?_
        refine yS (by kernel_rfl : opAt F8.o21 1 = some (some 118, .binOp .eql 35 (.tmp 117) (.const (.int .i64 0)) 35, none)) rfl rfl (fun w' hS => val_is (val_eql rfl rfl) (show _ = Value.bool true from congrArg Value.bool (decide_eq_true (rfl)))) ?_
        refine yS (by kernel_rfl : opAt F8.o21 2 = some (some 119, .move (.tmp 118), none)) rfl rfl (fun w' hS => val_move rfl) ?_
        refine yS (by kernel_rfl : opAt F8.o21 3 = some (some 120, .move (.tmp 16), (some (2, true)))) rfl rfl (fun w' hS => val_move rfl) ?_
        refine yS (by kernel_rfl : opAt F8.o21 4 = some (some 121, .binOp .eql 35 (.tmp 120) (.const (.int .i64 0)) 35, (some (2, true)))) rfl rfl (fun w' hS => val_is (val_eql rfl rfl) (show _ = Value.bool true from congrArg Value.bool (decide_eq_true (rfl)))) ?_
        refine yS (by kernel_rfl : opAt F8.o21 5 = some (some 122, .pick (.tmp 119) (.tmp 121) (.const (.bool false)), none)) rfl rfl (fun w' hS => val_pick_t rfl rfl) ?_
        refine yS (by kernel_rfl : opAt F8.o21 6 = some (some 123, .move (.tmp 122), none)) rfl rfl (fun w' hS => val_move rfl) ?_
        refine yS (by kernel_rfl : opAt F8.o21 7 = some (some 124, .move (.tmp 19), (some (6, true)))) rfl rfl (fun w' hS => val_move rfl) ?_
        refine yS (by kernel_rfl : opAt F8.o21 8 = some (some 125, .binOp .eql 35 (.tmp 124) (.const (.int .i64 0)) 35, (some (6, true)))) rfl rfl (fun w' hS => val_is (val_eql rfl rfl) (show _ = Value.bool true from congrArg Value.bool (decide_eq_true (rfl)))) ?_
        refine yS (by kernel_rfl : opAt F8.o21 9 = some (some 126, .pick (.tmp 123) (.tmp 125) (.const (.bool false)), none)) rfl rfl (fun w' hS => val_pick_t rfl rfl) ?_
        refine yS (by kernel_rfl : opAt F8.o21 10 = some (some 127, .move (.tmp 126), none)) rfl rfl (fun w' hS => val_move rfl) ?_
        refine yS (by kernel_rfl : opAt F8.o21 11 = some (some 128, .move (.tmp 12), (some (10, true)))) rfl rfl (fun w' hS => val_move rfl) ?_
        refine yS (by kernel_rfl : opAt F8.o21 12 = some (some 129, .move (.tmp 15), (some (10, true)))) rfl rfl (fun w' hS => val_move rfl) ?_
        refine yS (by kernel_rfl : opAt F8.o21 13 = some (some 130, .binOp .add 3 (.tmp 128) (.tmp 129) 3, (some (10, true)))) rfl rfl (fun w' hS => val_addi rfl rfl (by omega) (by omega)) ?_
        refine yS (by kernel_rfl : opAt F8.o21 14 = some (some 131, .move (.tmp 18), (some (10, true)))) rfl rfl (fun w' hS => val_move rfl) ?_
        refine yS (by kernel_rfl : opAt F8.o21 15 = some (some 132, .binOp .eql 3 (.tmp 130) (.tmp 131) 3, (some (10, true)))) rfl rfl (fun w' hS => val_is (val_eql rfl rfl) (show _ = Value.bool true from congrArg Value.bool (decide_eq_true (hlt.symm)))) ?_
        refine yS (by kernel_rfl : opAt F8.o21 16 = some (some 133, .pick (.tmp 127) (.tmp 132) (.const (.bool false)), none)) rfl rfl (fun w' hS => val_pick_t rfl rfl) ?_
        refine yS (by kernel_rfl : opAt F8.o21 17 = some (some 134, .move (.tmp 133), none)) rfl rfl (fun w' hS => val_move rfl) ?_
        refine yS (by kernel_rfl : opAt F8.o21 18 = some (some 135, .move (.tmp 17), (some (17, true)))) rfl rfl (fun w' hS => val_move rfl) ?_
        refine yS (by kernel_rfl : opAt F8.o21 19 = some (some 136, .move (.tmp 20), (some (17, true)))) rfl rfl (fun w' hS => val_move rfl) ?_
        refine cS (by kernel_rfl : opAt F8.o21 20 = some (some 137, .call { callee := .value (.func 21), args := #[(.tmp 135), (.tmp 136)], argTypes := #[24, 24] }, (some (17, true)))) rfl rfl (ent Try.call21 rfl) (same_ok hF hc3 hw) ?_
        rintro vw24 w24 ⟨rfl, hs⟩
        rw [decide_eq_true rfl]
        refine ⟨trivial, ?_⟩
        replace hF := hF.st hs
        replace hT := hT.trans hs (by simp)
        replace hc2 := hc2.st hs (by first | decide | (simp <;> omega))
        replace hc3 := hc3.st hs (by first | decide | (simp <;> omega))
        replace hw := hw.st hs (by first | decide | (simp <;> omega))
        refine yS (by kernel_rfl : opAt F8.o21 21 = some (some 138, .pick (.tmp 134) (.tmp 137) (.const (.bool false)), none)) rfl rfl (fun w' hS => val_pick_t rfl rfl) ?_
        refine yS (by kernel_rfl : opAt F8.o21 22 = some (some 2, .assign (.tmp 138), none)) rfl rfl (fun w' hS => val_assign rfl) ?_
        refine Sch.nil ?_
        refine run_ret1 (by kernel_rfl) Try.func8 Try.results8 rfl ?_
        exact ⟨rfl, hT.out1 (by decide)⟩
namespace F8B
noncomputable def c0 : Code := bodyOf Try.f8
noncomputable def c1 : Code := cl c0
noncomputable def o0 : Array Oper := rops c1
noncomputable def c2 : Code := cr c0
noncomputable def c3 : Code := cl c2
noncomputable def c4 : Code := cl c3
noncomputable def o1 : Array Oper := rops c4
noncomputable def c5 : Code := cr c3
noncomputable def c6 : Code := cl c5
noncomputable def c7 : Code := cl c6
noncomputable def o2 : Array Oper := rops c7
noncomputable def c8 : Code := cr c6
noncomputable def c9 : Code := cr c5
noncomputable def c10 : Code := cr c2
noncomputable def c11 : Code := cl c10
noncomputable def o3 : Array Oper := rops c11
noncomputable def c12 : Code := cr c10
noncomputable def c13 : Code := cl c12
noncomputable def o4 : Array Oper := rops c13
noncomputable def c14 : Code := cr c12
noncomputable def c15 : Code := cl c14
noncomputable def o5 : Array Oper := rops c15
noncomputable def c16 : Code := cr c14
noncomputable def c17 : Code := cl c16
noncomputable def o6 : Array Oper := rops c17
noncomputable def c18 : Code := cr c16
noncomputable def c19 : Code := cl c18
noncomputable def c20 : Code := cl c19
noncomputable def o7 : Array Oper := rops c20
noncomputable def c21 : Code := cr c19
noncomputable def c22 : Code := cl c21
noncomputable def c23 : Code := cl c22
noncomputable def c24 : Code := cl c23
noncomputable def o8 : Array Oper := rops c24
noncomputable def c25 : Code := cr c23
noncomputable def c26 : Code := cl c25
noncomputable def c27 : Code := cl c26
noncomputable def c28 : Code := cr c26
noncomputable def c29 : Code := cr c25
noncomputable def c30 : Code := cl c29
noncomputable def c31 : Code := cl c30
noncomputable def c32 : Code := cl c31
noncomputable def o9 : Array Oper := rops c32
noncomputable def c33 : Code := cr c31
noncomputable def o10 : Array Oper := rops c33
noncomputable def c34 : Code := cr c29
noncomputable def o11 : Array Oper := rops c34
noncomputable def c35 : Code := cr c18
noncomputable def c36 : Code := cl c35
noncomputable def o12 : Array Oper := rops c36
noncomputable def c37 : Code := cr c35
noncomputable def c38 : Code := cl c37
noncomputable def o13 : Array Oper := rops c38
noncomputable def c39 : Code := cr c37
noncomputable def c40 : Code := cl c39
noncomputable def o14 : Array Oper := rops c40
noncomputable def c41 : Code := cr c39
noncomputable def c42 : Code := cl c41
noncomputable def o15 : Array Oper := rops c42
noncomputable def c43 : Code := cr c41
noncomputable def c44 : Code := cl c43
noncomputable def c45 : Code := cl c44
noncomputable def o16 : Array Oper := rops c45
noncomputable def c46 : Code := cr c44
noncomputable def c47 : Code := cl c46
noncomputable def c48 : Code := cl c47
noncomputable def c49 : Code := cl c48
noncomputable def o17 : Array Oper := rops c49
noncomputable def c50 : Code := cr c48
noncomputable def c51 : Code := cl c50
noncomputable def c52 : Code := cl c51
noncomputable def c53 : Code := cr c51
noncomputable def c54 : Code := cr c50
noncomputable def c55 : Code := cl c54
noncomputable def c56 : Code := cl c55
noncomputable def c57 : Code := cl c56
noncomputable def o18 : Array Oper := rops c57
noncomputable def c58 : Code := cr c56
noncomputable def o19 : Array Oper := rops c58
noncomputable def c59 : Code := cr c54
noncomputable def o20 : Array Oper := rops c59
noncomputable def c60 : Code := cr c43
noncomputable def c61 : Code := cl c60
noncomputable def o21 : Array Oper := rops c61
noncomputable def c62 : Code := cr c60
end F8B
/-- .. where more is handed than it looks at. -/
theorem assignmentParts_big {w₀ : World} {C : Nat → Nat} {p : Option Addr} {n c : Nat} (hF : Lim w₀ C) (hn : 400 < n) : Calls Try.prog 8 #[.slice p n c] w₀ (Ret fun v w' => v = .bool true ∧ Stp [] w₀ C w' C) := by
  have hF0 := hF
  have hT := Stp.refl [2, 3, 4, 5, 6, 7, 8, 9] w₀ (col1 C)
  replace hF := hF.col1
  refine calls_start (c := F8B.c0) (N := 139) [.slice p n c] Try.func8 (by kernel_rfl) (by kernel_rfl) (by kernel_rfl) ?_
  show Run _ _ _ _ [(0, .slice p n c)] _ _
  refine run_seq (x := F8B.c1) (y := F8B.c2) (by kernel_rfl) ?_
  refine run_plain (id := 0) (ops := F8B.o0) [(0, true)] (by kernel_rfl) (by kernel_rfl) ?_
  refine yS (by kernel_rfl : opAt F8B.o0 0 = some (some 2, .assign (.const (.bool false)), none)) rfl rfl (fun w' hS => val_assign rfl) ?_
  refine Sch.nil ?_
  refine run_seq (x := F8B.c3) (y := F8B.c10) (by kernel_rfl) ?_
  refine run_seq (x := F8B.c4) (y := F8B.c5) (by kernel_rfl) ?_
  refine run_plain (id := 1) (ops := F8B.o1) [(0, false), (1, true), (2, true), (3, true), (4, false), (5, true), (6, true)] (by kernel_rfl) (by kernel_rfl) ?_
  refine cS (by kernel_rfl : opAt F8B.o1 0 = some (some 23, .call { callee := .value (.func 10), args := #[], argTypes := #[] }, none)) rfl rfl (ent Try.call10 rfl) (awake_ok hF) ?_
  rintro vw1 w1 ⟨rfl, hs⟩
  refine ⟨trivial, ?_⟩
  replace hF := hF.st hs
  replace hT := hT.trans hs (by simp)
  refine yS (by kernel_rfl : opAt F8B.o1 1 = some (some 24, .unOp .not 4 (.tmp 23), none)) rfl rfl (fun w' hS => val_not rfl) ?_
  refine yS (by kernel_rfl : opAt F8B.o1 2 = some (some 25, .move (.tmp 24), none)) rfl rfl (fun w' hS => val_move rfl) ?_
  refine yS (by kernel_rfl : opAt F8B.o1 3 = some (some 26, .move (.tmp 0), (some (2, false)))) rfl rfl (fun w' hS => val_move rfl) ?_
  refine cS (by kernel_rfl : opAt F8B.o1 4 = some (some 27, .call { callee := .value (.func 11), args := #[(.tmp 26)], argTypes := #[22] }, (some (2, false)))) rfl rfl (ent Try.call11 rfl) (few_ok _ _ _ _) ?_
  rintro vw2 w2 ⟨rfl, rfl⟩
  refine ⟨trivial, ?_⟩
  rw [decide_eq_false (show ¬ (n : Int) ≤ 400 by omega)]
  refine yS (by kernel_rfl : opAt F8B.o1 5 = some (some 28, .unOp .not 4 (.tmp 27), (some (2, false)))) rfl rfl (fun w' hS => val_not rfl) ?_
  refine yS (by kernel_rfl : opAt F8B.o1 6 = some (some 29, .pick (.tmp 25) (.const (.bool true)) (.tmp 28), none)) rfl rfl (fun w' hS => val_pick_f rfl rfl) ?_
  refine Sch.nil ?_
  refine run_cond (x := F8B.c6) (y := F8B.c9) (o := .tmp 29) (b := true) (by kernel_rfl) rfl (fun _ => ?_) (fun h => by cases h)
  refine run_seq (x := F8B.c7) (y := F8B.c8) (by kernel_rfl) ?_
  refine run_plain (id := 2) (ops := F8B.o2) [(0, false), (1, true)] (by kernel_rfl) (by kernel_rfl) ?_
  refine cS (by kernel_rfl : opAt F8B.o2 0 = some (some 30, .call { callee := .value (.func 10), args := #[], argTypes := #[] }, none)) rfl rfl (ent Try.call10 rfl) (awake_ok hF) ?_
  rintro vw3 w3 ⟨rfl, hs⟩
  refine ⟨trivial, ?_⟩
  replace hF := hF.st hs
  replace hT := hT.trans hs (by simp)
  refine yS (by kernel_rfl : opAt F8B.o2 1 = some (some 2, .assign (.tmp 30), none)) rfl rfl (fun w' hS => val_assign rfl) ?_
  refine Sch.nil ?_
  refine run_ret1 (by kernel_rfl) Try.func8 Try.results8 rfl ?_
  exact ⟨rfl, hT.out1 (by decide)⟩
end Go.Proofs.Ytgooehopkmbkfaa
